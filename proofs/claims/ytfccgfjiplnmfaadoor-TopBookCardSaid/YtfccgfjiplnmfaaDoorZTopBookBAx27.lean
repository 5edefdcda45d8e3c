/- Of the text BAx27, what the row of TopBook reaches. -/
import Derived.Test.YtfccgfjiplnmfaaDoorZTopBookBAx0
import Derived.Test.YtfccgfjiplnmfaaDoorZTopBookBAx26
namespace Go.Proofs.YtfccgfjiplnmfaaDoor.BA
open Go.RowKit Go.Proofs.YtfccgfjiplnmfaaDoorW.PrintWords Go.Proofs.YtfccgfjiplnmfaaDoorW.PrintLast Go.Proofs.YtfccgfjiplnmfaaDoorW.PrintMore
open Go.Proofs.YtfccgfjiplnmfaaDoorW.PrintWords renaming blk_drewN → bN, blk_drew → bD, blk_alloc → bA, below_alloc → wA, pw_below_drewN → wN, below_drew1 → wD, below_set → wS
open List renaming setIfInBounds_toArray → sA, set_cons_zero → s0, set_cons_succ → s1
open Act renaming put → ap
open Aside0 renaming mk → am
attribute [local go_sem] max2_int min2_int max_two min_two max_three min_three max_four min_four   -- for this text's walks alone
set_option linter.unusedVariables false
set_option linter.unusedSimpArgs false

def wigeonref09_head.l0 : Nat → ByteArray → List ByteArray → Int → Option (Int × Int × Bool)
  | 0, _, _, _ => none
  | k + 1, x0, x5, x6 => if x6 < (wrap64 ((x0.size : Int) - 1)) then (if 0 ≤ x6 then (if x6 < (x0.size : Int) then (if (bt x0 x6) = 32 then (if x5.length < 8796093022208 then (wigeonref09_head.l0 k x0 (x5 ++ [(⟨#[]⟩ : ByteArray)]) (wrap64 (x6 + 1))) else (none)) else (if 0 ≤ (wrap64 ((x5.length : Int) - 1)) then (if (wrap64 ((x5.length : Int) - 1)) < (x5.length : Int) then (if x6 ≤ (wrap64 (x6 + 1)) then (if (wrap64 (x6 + 1)) ≤ (x0.size : Int) then (if (rdOf ByteArray.empty x5 (wrap64 ((x5.length : Int) - 1))).size + (x0.extract (x6 : Int).toNat ((wrap64 (x6 + 1)) : Int).toNat).size ≤ 9223372036854775807 then (wigeonref09_head.l0 k x0 (x5.set ((wrap64 ((x5.length : Int) - 1)) : Int).toNat ((rdOf ByteArray.empty x5 (wrap64 ((x5.length : Int) - 1))) ++ (x0.extract (x6 : Int).toNat ((wrap64 (x6 + 1)) : Int).toNat))) (wrap64 (x6 + 1))) else (none)) else (none)) else (none)) else (none)) else (none))) else (none)) else (none)) else (if (x5.length : Int) = 3 then (if 1 < (x5.length : Int) then ((wigeonref09_number.f k (rdOf ByteArray.empty x5 1)).bind fun t258 => (if 2 < (x5.length : Int) then ((wigeonref09_number.f k (rdOf ByteArray.empty x5 2)).bind fun t260 => (if t258 ≥ 0 then (if t258 ≤ 64 then ((wigeonref09_isSum.f t260).bind fun t261 => (if t261 = true then ((wigeonref09_first.f k t258 t260).bind fun t262 => (some (t258, t260, (t262.toList == x0.toList)))) else (some (t258, t260, false)))) else (some (t258, t260, false))) else (some (t258, t260, false)))) else (none))) else (none)) else (some (0, 0, false)))
def wigeonref09_head.f (k : Nat) (a0 : ByteArray) : Option (Int × Int × Bool) := wigeonref09_head.l0 k a0 (([(⟨#[]⟩ : ByteArray)] : List ByteArray)) 0
def wigeonref09_head.T7 : Bool × List (List Nat × List Nat) := (true, [([], []), ([], []), ([1], [1]), ([2], [2]), ([0, 3], [0, 3]), ([4], [4]), ([], []), ([], []), ([], []), ([8], [8]), ([6, 7, 9], [6, 7, 9]), ([5, 10], [5, 10]), ([0, 3, 0, 1, 2, 3, 4, 5, 6, 7, 8, 9, 10, 11], [0, 3]), ([12, 11, 0, 1, 2, 3, 4, 5, 6, 7, 8, 9, 10, 11], [11, 12])])
def wigeonref09_head.B7 : List Nat := [0, 0, 2, 6, 15, 31, 0, 0, 0, 256, 960, 2047, 4095, 8191]
theorem wigeonref09_head.tab7 : rtab .any (opsOf Tryd.f56 7) = wigeonref09_head.T7 := by kernel_rfl
theorem wigeonref09_head.bits7 : waitsOk wigeonref09_head.T7.2 wigeonref09_head.B7 = true := by kernel_rfl
def wigeonref09_head.T10 : Bool × List (List Nat × List Nat) := (true, [([], []), ([0], [0]), ([1], [1]), ([2], [2]), ([], []), ([4], [4]), ([5], [5]), ([6, 3], [6]), ([3, 7, 0, 1, 2, 3], [3]), ([7, 8, 0, 1, 2, 3, 4, 5, 6, 7, 8], [7])])
def wigeonref09_head.B10 : List Nat := [0, 1, 3, 7, 0, 16, 48, 127, 255, 511]
theorem wigeonref09_head.tab10 : rtab .any (opsOf Tryd.f56 10) = wigeonref09_head.T10 := by kernel_rfl
theorem wigeonref09_head.bits10 : waitsOk wigeonref09_head.T10.2 wigeonref09_head.B10 = true := by kernel_rfl
open Bool renaming true → T, false → F
set_option maxHeartbeats 8000000 in
set_option maxRecDepth 100000 in
theorem wigeonref09_head.calls (k : Nat) (a0 : ByteArray) (r1 : Int) (r2 : Int) (r3 : Bool) (w : World) (h : wigeonref09_head.f k a0 = some (r1, r2, r3)) :
 Calls Tryd.prog 56 #[.string a0] w fun e w' => e = .returned (.tuple #[.int .i64 r1, .int .i64 r2, .bool r3]) ∧ Below w.heap.size w w' := by
 have HB := am (Below.refl w.heap.size w)
 have H : (wigeonref09_head.l0 k a0 (([(⟨#[]⟩ : ByteArray)] : List ByteArray)) 0) = some (r1, r2, r3) := h
 clear h
 obtain ⟨y249, hy249⟩ : ∃ y_ : List ByteArray, y_ = (([(⟨#[]⟩ : ByteArray)] : List ByteArray)) := ⟨_, rfl⟩
 replace H : (wigeonref09_head.l0 k a0 y249 0) = some (r1, r2, r3) := by first | (rw [hy249]; with_reducible exact H) | (have H2_ := (Option.bind_some _ _).symm.trans H; rw [hy249]; with_reducible exact H2_) | (have H2_ := (Option.bind_some _ _).symm.trans H; with_reducible exact H2_) | with_reducible exact H | (rw [hy249]; exact H) | exact H
 have Ny249 := am hy249
 clear hy249
 have H' := am H
 clear H
 go_enter Tryd.func56, Tryd.ntmps56
 go_wp2_with (first | ((with_reducible refine gate_dst (N := 9) rfl ?_); refine Kd.R_lit Kd.string _ 9 ?hg (N := 9) ?hd (xs := ([(⟨#[]⟩ : ByteArray)] : List ByteArray)) (inner := [.string (⟨#[]⟩ : ByteArray)]) (ok := fun _ => True) (okp := fun _ => True) ?hr ?hp (fun _ hk => hk) trivial (Below.refl _ _) (Nat.le_refl _) (by simp) ?_; (case hd => rfl); (case hg => rfl); (case hr => first | (go_simp; done) | (go_simp; rfl)); (case hp => exact (Reps.one (show Kd.M Kd.string _ _ _ (⟨#[]⟩ : ByteArray) [.string (⟨#[]⟩ : ByteArray)] from rfl) (Reps.none _ _))); intro v250 w2 ho3 hb hg_ hnew_; clear hg_ hnew_; (first | rw [← Ny249.out] at ho3 | (simp only [Int.reduceToNat] at ho3; rw [← Ny249.out] at ho3)); have n0_ := am (Kd.R_lower ho3 (below_size (by repeat first|(with_reducible first|exact HB.out|apply wA|apply wN|apply wD)|exact HB.out))); have n1_ := am (below_step (by repeat first|(with_reducible first|exact HB.out|apply wA|apply wN|apply wD)|exact HB.out) hb); clear HB; have HO251 := n0_; have HB := n1_; clear n0_ n1_; clear hb ho3))
 go_loopg [5, 6] k (fun kq v5 v6 w' => ∃ (x5_1 : List ByteArray) (x6_1 : Int), v6 = .int .i64 x6_1 ∧ Aside0 (wigeonref09_head.l0 kq a0 x5_1 x6_1 = some (r1, r2, r3)) ∧ Aside0 (kq ≤ k) ∧ Aside0 (Kd.R Kd.string 9 w' w.heap.size (fun _ => True) v5 x5_1) ∧ Aside0 (Below w.heap.size w w'))
 case atStart => exact ⟨(y249), (0), (by first | rfl | (simp; done) | (simp [*]; done)), H', ⟨Nat.le_refl _⟩, ⟨by (with_reducible repeat first|apply Kd.R_alloc|apply Kd.R_drewN|apply Kd.R_drew);exact HO251.out⟩, ⟨by repeat (first | (with_reducible first | exact HB.out | apply below_alloc | apply pw_below_drewN | apply below_drew1) | exact HB.out)⟩⟩
 case round =>(
 clear H'
 try clear p2
 obtain ⟨x5_1, x6_1, rfl, HA, HK1, HO_5, HB⟩ := hrel
 cases gk with
 | zero => exact absurd HA.out (by simp [wigeonref09_head.l0])
 | succ k1 =>
  have H := HA.out
  clear HA
  simp only [wigeonref09_head.l0] at H
  by_cases c4 : x6_1 < (wrap64 ((a0.size : Int) - 1))
  {
 rw [if_pos c4] at H
 have c4b0 : decide (x6_1 < (wrap64 ((a0.size : Int) - 1))) = true := decide_eq_true c4
 clear c4
 by_cases c5 : 0 ≤ x6_1
 {
 rw [if_pos c5] at H
 have c5b0 : decide (0 ≤ x6_1) = true := decide_eq_true c5
 clear c5
 by_cases c6 : x6_1 < (a0.size : Int)
 {
 rw [if_pos c6] at H
 have c6b0 : decide (x6_1 < (a0.size : Int)) = true := decide_eq_true c6
 clear c6
 by_cases c8 : (bt a0 x6_1) = 32
 {
 rw [if_pos c8] at H
 have c8b0 : ((bt a0 x6_1) == 32) = true := beq_iff_eq.mpr c8
 have c8b1 : ((bt a0 x6_1) != 32) = false := bne_eq_false_iff_eq.mpr c8
 clear c8
 by_cases c9 : x5_1.length < 8796093022208
 {
 rw [if_pos c9] at H
 have LMc9 := am c9
 clear c9
 obtain ⟨y252, hy252⟩ : ∃ y_ : List ByteArray, y_ = (x5_1 ++ [(⟨#[]⟩ : ByteArray)]) := ⟨_, rfl⟩
 replace H : (wigeonref09_head.l0 k1 a0 y252 (wrap64 (x6_1 + 1))) = some (r1, r2, r3) := by first | (rw [hy252]; with_reducible exact H) | (have H2_ := (Option.bind_some _ _).symm.trans H; rw [hy252]; with_reducible exact H2_) | (have H2_ := (Option.bind_some _ _).symm.trans H; with_reducible exact H2_) | with_reducible exact H | (rw [hy252]; exact H) | exact H
 have Ny252 := am hy252
 clear hy252
 have H' := am H
 clear H
 have p7 : 0 ≤ (x6_1 : Int) := of_decide_eq_true (by first | (with_reducible assumption) | assumption)
 have q7 : x6_1 < (a0.size : Int) := of_decide_eq_true (by first | (with_reducible assumption) | assumption)
 have hx7 := bt_at a0 x6_1
 replace p7 := eq_true p7
 replace q7 := eq_true q7
 go_wp2_with (first | ((with_reducible refine gate_builtin (b := .append) (xs := #[.tmp 21, .tmp 22]) rfl ?_); at_builtin; refine Kd.R_append Kd.string (w0 := w) w.heap.size rfl (.tmp 21) (.tmp 22) 22 9 (.string ⟨#[]⟩) 16 rfl Tryd.underlying22 info9 rfl (by decide) (by omega) u5 x5_1 (⟨#[]⟩ : ByteArray) [.string (⟨#[]⟩ : ByteArray)] (fun _ => True) (fun _ => False) rfl rfl ?aP (fun _ hk => hk.elim) ?aF ?aO ?aB ?aS ?aL ?_; (case aP => exact rfl); (case aB => exact (by repeat first|(with_reducible first|exact HB.out|apply wA|apply wN|apply wD)|exact HB.out)); (case aF => exact (fun _ _ => trivial)); (case aO => exact (by (with_reducible repeat first|apply Kd.R_alloc|apply Kd.R_drewN|apply Kd.R_drew);exact HO_5.out)); (case aS => exact (below_size (by repeat first|(with_reducible first|exact HB.out|apply wA|apply wN|apply wD)|exact HB.out))); (case aL => have := LMc9.out; omega); intro v253 w10 ho hb hg hat; rw [← Ny252.out] at ho; have n0_ := am (hb); have n1_ := am (ho); clear HB; clear HO_5; have HB := n0_; have HO254 := n1_; clear n0_ n1_; clear ho hb hg hat))
 go_roundg k1
 case measure => have := HK1.out; omega
 case rel => exact ⟨(y252), (wrap64 (x6_1 + 1)), (by first | rfl | (simp; done) | (simp [*]; done)), H', ⟨by have := HK1.out; omega⟩, ⟨by (with_reducible repeat first|apply Kd.R_alloc|apply Kd.R_drewN|apply Kd.R_drew);exact HO254.out⟩, ⟨by repeat (first | (with_reducible first | exact HB.out | apply below_alloc | apply pw_below_drewN | apply below_drew1) | exact HB.out)⟩⟩}
 rw [if_neg c9] at H
 exact absurd H (by simp)}
 rw [if_neg c8] at H
 have c8b0 : ((bt a0 x6_1) == 32) = false := beq_eq_false_iff_ne.mpr c8
 have c8b1 : ((bt a0 x6_1) != 32) = true := bne_iff_ne.mpr c8
 obtain ⟨ji11, hji11⟩ : ∃ j_ : Int, (wrap64 ((x5_1.length : Int) - 1)) = j_ := ⟨_, rfl⟩
 replace H : (if 0 ≤ (ji11) then (if (ji11) < (x5_1.length : Int) then (if x6_1 ≤ (wrap64 (x6_1 + 1)) then (if (wrap64 (x6_1 + 1)) ≤ (a0.size : Int) then (if (rdOf ByteArray.empty x5_1 (ji11)).size + (a0.extract (x6_1 : Int).toNat ((wrap64 (x6_1 + 1)) : Int).toNat).size ≤ 9223372036854775807 then (wigeonref09_head.l0 k1 a0 (x5_1.set ((ji11) : Int).toNat ((rdOf ByteArray.empty x5_1 (ji11)) ++ (a0.extract (x6_1 : Int).toNat ((wrap64 (x6_1 + 1)) : Int).toNat))) (wrap64 (x6_1 + 1))) else (none)) else (none)) else (none)) else (none)) else (none)) = some (r1, r2, r3) := by first | (rw [hji11] at H; exact H) | (simp only [hji11] at H ⊢; exact H)
 have hji11w : (IntKind.i64.wrap ((x5_1.length : Int) - 1)) = ji11 := (i64_w _).trans hji11
 by_cases c12 : 0 ≤ (ji11)
 {
 rw [if_pos c12] at H
 have c12b0 : decide (0 ≤ (ji11)) = true := decide_eq_true c12
 clear c12
 by_cases c13 : (ji11) < (x5_1.length : Int)
 {
 rw [if_pos c13] at H
 have c13b0 : decide ((ji11) < (x5_1.length : Int)) = true := decide_eq_true c13
 clear c13
 have c14b0 := eq_true (of_decide_eq_true (by first | (with_reducible assumption) | assumption) : 0 ≤ x6_1)
 by_cases c15 : x6_1 ≤ (wrap64 (x6_1 + 1))
 {
 rw [if_pos c15] at H
 have c15b0 := eq_true c15
 have c15b1 : decide (x6_1 ≤ (wrap64 (x6_1 + 1))) = true := decide_eq_true c15
 by_cases c16 : (wrap64 (x6_1 + 1)) ≤ (a0.size : Int)
 {
 rw [if_pos c16] at H
 have c16b0 := eq_true c16
 have c16b1 : decide ((wrap64 (x6_1 + 1)) ≤ (a0.size : Int)) = true := decide_eq_true c16
 by_cases c17 : (rdOf ByteArray.empty x5_1 (ji11)).size + (a0.extract (x6_1 : Int).toNat ((wrap64 (x6_1 + 1)) : Int).toNat).size ≤ 9223372036854775807
 {
 rw [if_pos c17] at H
 have c17b0 := eq_true c17
 have c17b1 : decide ((rdOf ByteArray.empty x5_1 (ji11)).size + (a0.extract (x6_1 : Int).toNat ((wrap64 (x6_1 + 1)) : Int).toNat).size ≤ 9223372036854775807) = true := decide_eq_true c17
 try have c17b2 : (9223372036854775807 < (rdOf ByteArray.empty x5_1 (ji11)).size + (a0.extract (x6_1 : Int).toNat ((wrap64 (x6_1 + 1)) : Int).toNat).size) = False := eq_false (Nat.not_lt.2 c17)
 try have c17b3 : (9223372036854775807 < (rdOf ByteArray.empty x5_1 (ji11)).size + (((wrap64 (x6_1 + 1)) : Int).toNat - (x6_1 : Int).toNat)) = False := eq_false (by have z_ := c17; have j_ : (wrap64 (x6_1 + 1) : Int) ≤ (a0.size : Int) := of_decide_eq_true (by assumption); simp only [ByteArray.size_extract] at z_; omega)
 obtain ⟨y256, hy256⟩ : ∃ y_ : List ByteArray, y_ = (x5_1.set ((ji11) : Int).toNat ((rdOf ByteArray.empty x5_1 (ji11)) ++ (a0.extract (x6_1 : Int).toNat ((wrap64 (x6_1 + 1)) : Int).toNat))) := ⟨_, rfl⟩
 replace H : (wigeonref09_head.l0 k1 a0 y256 (wrap64 (x6_1 + 1))) = some (r1, r2, r3) := by first | (rw [hy256]; with_reducible exact H) | (have H2_ := (Option.bind_some _ _).symm.trans H; rw [hy256]; with_reducible exact H2_) | (have H2_ := (Option.bind_some _ _).symm.trans H; with_reducible exact H2_) | with_reducible exact H | (rw [hy256]; exact H) | exact H
 have Ny256 := am hy256
 clear hy256
 have H' := am H
 clear H
 have p7 : 0 ≤ (x6_1 : Int) := of_decide_eq_true (by first | (with_reducible assumption) | assumption)
 have q7 : x6_1 < (a0.size : Int) := of_decide_eq_true (by first | (with_reducible assumption) | assumption)
 have hx7 := bt_at a0 x6_1
 replace p7 := eq_true p7
 replace q7 := eq_true q7
 try go_wp2
 have n0_ := am (Kd.R_drew HO_5.out)
 have n1_ := am (below_drew1 HB.out)
 clear HO_5
 clear HB
 have HO_5 := n0_
 have HB := n1_
 clear n0_ n1_
 obtain ⟨Ao20, co20, eo20⟩ := Kd.R_slice HO_5.out
 (first | subst eo20 | (injection eo20 with f1_ f2_ f3_; have f4_ := f1_.symm; have f5_ := f3_.symm; clear f1_ f2_ f3_; subst f4_; subst f5_))
 have p255 : 0 ≤ ((ji11) : Int) := of_decide_eq_true (by first | (with_reducible assumption) | assumption)
 have q255 : (ji11) < (x5_1.length : Int) := of_decide_eq_true (by first | (with_reducible assumption) | assumption)
 obtain ⟨ad255, e255, hx255_0⟩ := Kd.at_string (Kd.R_reads' HO_5.out).2.2 (ji11) p255 q255
 cases e255
 replace p255 := eq_true p255
 replace q255 := eq_true q255
 have p18 : 0 ≤ ((ji11) : Int) := of_decide_eq_true (by first | (with_reducible assumption) | assumption)
 have q18 : ((ji11) : Int) < ((x5_1.length : Int) : Int) := of_decide_eq_true (by first | (with_reducible assumption) | assumption)
 obtain ⟨go18, co18, eo18, gb18, gl18, cl18, HG18⟩ := Kd.R_form HO_5.out (by omega)
 (first | cases eo18 | (injection eo18 with ea_ en_ ec_; (first | subst ea_ | (injection ea_ with ea_; subst ea_)); subst ec_; clear en_))
 have GB18 := am gb18
 have GG18 := am HG18
 clear gb18 gl18 HG18
 (first | simp only [add_plain] at hx255_0 | skip)
 obtain ⟨hx18_0, hf18_0⟩ := Kd.R_celln (⟨#[]⟩ : ByteArray) HO_5.out ((ji11) : Int) p18 q18
 replace p18 := eq_true p18
 replace q18 := eq_true q18
 have HP21 := Kd.R_putn HO_5.out ((ji11) : Int) ((rdOf ByteArray.empty x5_1 (ji11)) ++ (a0.extract (x6_1 : Int).toNat ((wrap64 (x6_1 + 1)) : Int).toNat))
 rw [← Ny256.out] at HP21
 have HQ21 := am HP21
 clear HP21
 refine start_ (n := 14) (S := fun w' => w'.cell? ⟨go18, ((ji11)).toNat, none⟩ = some (.string (rdOf ByteArray.empty x5_1 (ji11)))) (ds := [13]) #[F,F,F,F,F,F,F,F,F,F,F,F,F,F] (by kernel_rfl) rfl rfl (hx255_0) (fun hHeld => ?_); refine with_tabW wigeonref09_head.tab7 wigeonref09_head.bits7 (fun HT_ HW_ => ?_)
 generalize wr.drew = w19 at HO_5 HB GG18 HQ21 hf18_0 hx18_0 hx255_0 hHeld ⊢
 refine pure_ (i := 0) (N := some 24) (v := ?_) (a' := ?_) #[T,F,F,F,F,F,F,F,F,F,F,F,F,F] rfl rfl (any_of HT_.out (by kernel_rfl)) (fun _ _ _ h => h) (Or.inl ⟨by rfl, ?_⟩) ?_ ?_
 rotate_left;{
 intro w'
 go_simp
 with_reducible rfl}
 rotate_left;{
 simp only [ap,sA,s0,s1,i64_w,i32_w]
 rfl}
 refine pure_ (i := 1) (N := some 25) (v := ?_) (a' := ?_) #[T,T,F,F,F,F,F,F,F,F,F,F,F,F] rfl rfl (any_of HT_.out (by kernel_rfl)) (fun _ _ _ h => h) (Or.inl ⟨by rfl, ?_⟩) ?_ ?_
 rotate_left;{
 intro w'
 go_simp
 with_reducible rfl}
 rotate_left;{
 simp only [ap,sA,s0,s1,i64_w,i32_w]
 rfl}
 refine pure_ (i := 2) (N := some 26) (v := ?_) (a' := ?_) #[T,T,T,F,F,F,F,F,F,F,F,F,F,F] rfl rfl (any_of HT_.out (by kernel_rfl)) (fun _ _ _ h => h) (Or.inl ⟨by rfl, ?_⟩) ?_ ?_
 rotate_left;{
 intro w'
 go_simp
 with_reducible rfl}
 rotate_left;{
 simp only [ap,sA,s0,s1,i64_w,i32_w]
 rfl}
 refine pure_ (i := 3) (N := some 27) (v := ?_) (a' := ?_) #[T,T,T,T,F,F,F,F,F,F,F,F,F,F] rfl rfl (any_of HT_.out (by kernel_rfl)) (fun _ _ _ h => h) (Or.inl ⟨by rfl, ?_⟩) ?_ ?_
 rotate_left;{
 intro w'
 go_simp
 with_reducible rfl}
 rotate_left;{
 simp only [ap,sA,s0,s1,i64_w,i32_w]
 rfl}
 refine pure_ (i := 4) (N := some 28) (v := ?_) (a' := ?_) #[T,T,T,T,T,F,F,F,F,F,F,F,F,F] rfl rfl (any_of HT_.out (by kernel_rfl)) (fun _ _ _ h => h) (Or.inl ⟨by rfl, ?_⟩) ?_ ?_
 rotate_left;{
 intro w'
 go_simp
 with_reducible rfl}
 rotate_left;{
 simp only [ap,sA,s0,s1,i64_w,i32_w]
 rfl}
 refine pure_ (i := 6) (N := some 30) (v := ?_) (a' := ?_) #[T,T,T,T,T,F,T,F,F,F,F,F,F,F] rfl rfl (any_of HT_.out (by kernel_rfl)) (fun _ _ _ h => h) (Or.inl ⟨by rfl, ?_⟩) ?_ ?_
 rotate_left;{
 intro w'
 go_simp
 with_reducible rfl}
 rotate_left;{
 simp only [ap,sA,s0,s1,i64_w,i32_w]
 rfl}
 refine pure_ (i := 7) (N := some 31) (v := ?_) (a' := ?_) #[T,T,T,T,T,F,T,T,F,F,F,F,F,F] rfl rfl (any_of HT_.out (by kernel_rfl)) (fun _ _ _ h => h) (Or.inl ⟨by rfl, ?_⟩) ?_ ?_
 rotate_left;{
 intro w'
 go_simp
 with_reducible rfl}
 rotate_left;{
 simp only [ap,sA,s0,s1,i64_w,i32_w]
 rfl}
 refine pure_ (i := 8) (N := some 32) (v := ?_) (a' := ?_) #[T,T,T,T,T,F,T,T,T,F,F,F,F,F] rfl rfl (any_of HT_.out (by kernel_rfl)) (fun _ _ _ h => h) (Or.inl ⟨by rfl, ?_⟩) ?_ ?_
 rotate_left;{
 intro w'
 go_simp
 with_reducible rfl}
 rotate_left;{
 simp only [ap,sA,s0,s1,i64_w,i32_w]
 rfl}
 refine pure_ (i := 9) (N := some 33) (v := ?_) (a' := ?_) #[T,T,T,T,T,F,T,T,T,T,F,F,F,F] rfl rfl (any_of HT_.out (by kernel_rfl)) (fun _ _ _ h => h) (Or.inl ⟨by rfl, ?_⟩) ?_ ?_
 rotate_left;{
 intro w'
 go_simp
 with_reducible rfl}
 rotate_left;{
 simp only [ap,sA,s0,s1,i64_w,i32_w]
 rfl}
 refine pure_ (i := 10) (N := some 34) (v := ?_) (a' := ?_) #[T,T,T,T,T,F,T,T,T,T,T,F,F,F] rfl rfl (any_of HT_.out (by kernel_rfl)) (fun _ _ _ h => h) (Or.inl ⟨by rfl, ?_⟩) ?_ ?_
 rotate_left;{
 intro w'
 go_simp
 with_reducible rfl}
 rotate_left;{
 simp only [ap,sA,s0,s1,i64_w,i32_w]
 rfl}
 refine take_ (i := 5) (N := some 29) (v := ?_) (a' := ?_) #[T,T,T,T,T,T,T,T,T,T,T,F,F,F] rfl rfl (take_ofW HT_.out HW_.out (by kernel_rfl)) (fun _ _ _ h => h) (Or.inl ⟨by rfl, ?_⟩) hHeld ?_ ?_
 rotate_left;{
 intro w' s0
 go_simp
 with_reducible rfl}
 rotate_left;{
 simp only [ap,sA,s0,s1,i64_w,i32_w]
 rfl}
 refine pure_ (i := 11) (N := some 35) (v := ?_) (a' := ?_) #[T,T,T,T,T,T,T,T,T,T,T,T,F,F] rfl rfl (any_of HT_.out (by kernel_rfl)) (fun _ _ _ h => h) (Or.inl ⟨by rfl, ?_⟩) ?_ ?_
 rotate_left;{
 intro w'
 go_simp
 with_reducible rfl}
 rotate_left;{
 simp only [ap,sA,s0,s1,i64_w,i32_w]
 rfl}
 refine pure_ (i := 12) (N := some 36) (v := ?_) (a' := ?_) #[T,T,T,T,T,T,T,T,T,T,T,T,T,F] rfl rfl (any_of HT_.out (by kernel_rfl)) (fun _ _ _ h => h) (Or.inl ⟨by rfl, ?_⟩) ?_ ?_
 rotate_left;{
 intro w'
 go_simp
 with_reducible rfl}
 rotate_left;{
 simp only [ap,sA,s0,s1,i64_w,i32_w]
 rfl}
 refine last_ (i := 13) (N := none) #[T,T,T,T,T,T,T,T,T,T,T,T,T,T] rfl rfl (one_of HT_.out (by kernel_rfl)) (by decide) (fun K hK => ?_)
 refine skip_ (w1 := ?_) (by rfl) rfl ?_ ?_
 rotate_left;{
 go_simp
 rfl}
 refine hK.out _ _ ?_
 clear hK K
 refine done_ (done_of HT_.out (by kernel_rfl)) ?_
 try go_wp2
 go_roundg k1
 case measure => have := HK1.out; omega
 case rel => exact ⟨(y256), (wrap64 (x6_1 + 1)), (by first | rfl | (simp; done) | (simp [*]; done)), H', ⟨by have := HK1.out; omega⟩, ⟨by (with_reducible repeat first|apply Kd.R_alloc|apply Kd.R_drewN|apply Kd.R_drew);exact HQ21.out⟩, ⟨by repeat (first | (with_reducible first | exact HB.out | apply below_alloc | apply pw_below_drewN | apply below_drew1 | refine below_set ?_ GB18.out) | exact HB.out)⟩⟩}
 rw [if_neg c17] at H
 exact absurd H (by simp)}
 rw [if_neg c16] at H
 exact absurd H (by simp)}
 rw [if_neg c15] at H
 exact absurd H (by simp)}
 rw [if_neg c13] at H
 exact absurd H (by simp)}
 rw [if_neg c12] at H
 exact absurd H (by simp)}
 rw [if_neg c6] at H
 exact absurd H (by simp)}
 rw [if_neg c5] at H
 exact absurd H (by simp)}
  rw [if_neg c4] at H
  have c4b0 : decide (x6_1 < (wrap64 ((a0.size : Int) - 1))) = false := decide_eq_false c4
  clear c4
  by_cases c22 : (x5_1.length : Int) = 3
  {
 rw [if_pos c22] at H
 have c22b0 : ((x5_1.length : Int) == 3) = true := beq_iff_eq.mpr c22
 have c22b1 : ((x5_1.length : Int) != 3) = false := bne_eq_false_iff_eq.mpr c22
 clear c22
 by_cases c23 : 1 < (x5_1.length : Int)
 {
 rw [if_pos c23] at H
 have c23b0 : decide (1 < (x5_1.length : Int)) = true := decide_eq_true c23
 have c23b1 : decide (1 < x5_1.length) = true := decide_eq_true (by omega)
 clear c23
 replace H := Option.bind_eq_some_iff.mp H
 obtain ⟨t258, A240, H⟩ := H
 replace H : (if 2 < (x5_1.length : Int) then ((wigeonref09_number.f k1 (rdOf ByteArray.empty x5_1 2)).bind fun t260 => (if t258 ≥ 0 then (if t258 ≤ 64 then ((wigeonref09_isSum.f t260).bind fun t261 => (if t261 = true then ((wigeonref09_first.f k1 t258 t260).bind fun t262 => (some (t258, t260, (t262.toList == a0.toList)))) else (some (t258, t260, false)))) else (some (t258, t260, false))) else (some (t258, t260, false)))) else (none)) = some (r1, r2, r3) := H
 have A24 := am A240
 clear A240
 by_cases c25 : 2 < (x5_1.length : Int)
 {
 rw [if_pos c25] at H
 have c25b0 : decide (2 < (x5_1.length : Int)) = true := decide_eq_true c25
 have c25b1 : decide (2 < x5_1.length) = true := decide_eq_true (by omega)
 clear c25
 replace H := Option.bind_eq_some_iff.mp H
 obtain ⟨t260, A260, H⟩ := H
 replace H : (if t258 ≥ 0 then (if t258 ≤ 64 then ((wigeonref09_isSum.f t260).bind fun t261 => (if t261 = true then ((wigeonref09_first.f k1 t258 t260).bind fun t262 => (some (t258, t260, (t262.toList == a0.toList)))) else (some (t258, t260, false)))) else (some (t258, t260, false))) else (some (t258, t260, false))) = some (r1, r2, r3) := H
 have A26 := am A260
 clear A260
 by_cases c27 : t258 ≥ 0
 {
 rw [if_pos c27] at H
 have c27b0 : decide (0 ≤ t258) = true := decide_eq_true c27
 clear c27
 by_cases c28 : t258 ≤ 64
 {
 rw [if_pos c28] at H
 have c28b0 : decide (t258 ≤ 64) = true := decide_eq_true c28
 clear c28
 replace H := Option.bind_eq_some_iff.mp H
 obtain ⟨t261, A290, H⟩ := H
 replace H : (if t261 = true then ((wigeonref09_first.f k1 t258 t260).bind fun t262 => (some (t258, t260, (t262.toList == a0.toList)))) else (some (t258, t260, false))) = some (r1, r2, r3) := H
 have A29 := am A290
 clear A290
 by_cases c30 : t261 = true
 {
 subst c30
 have H1 : ((wigeonref09_first.f k1 t258 t260).bind fun t262 => (some (t258, t260, (t262.toList == a0.toList)))) = some (r1, r2, r3) := by rw [if_pos rfl] at H; exact H
 clear H
 have H := H1
 clear H1
 replace H := Option.bind_eq_some_iff.mp H
 obtain ⟨t262, A310, H⟩ := H
 replace H : (some (t258, t260, (t262.toList == a0.toList))) = some (r1, r2, r3) := H
 have A31 := am A310
 clear A310
 simp only [Option.some.injEq, Prod.mk.injEq] at H
 obtain ⟨rfl, rfl, rfl⟩ := H
 obtain ⟨Ao32, co32, eo32⟩ := Kd.R_slice HO_5.out
 subst eo32
 try go_wp2
 have n0_ := am (Kd.R_drew HO_5.out)
 have n1_ := am (below_drew1 HB.out)
 clear HO_5
 clear HB
 have HO_5 := n0_
 have HB := n1_
 clear n0_ n1_
 have p257 : 0 ≤ (1 : Int) := (by omega)
 have q257 : 1 < (x5_1.length : Int) := of_decide_eq_true (by first | (with_reducible assumption) | assumption)
 obtain ⟨ad257, e257, hx257_0⟩ := Kd.at_string (Kd.R_reads' HO_5.out).2.2 1 p257 q257
 cases e257
 (try simp only [show (1 : Int).toNat = 1 from rfl, Nat.reduceMul, Nat.reduceEqDiff, Go.Addr.add, ↓reduceIte] at hx257_0)
 have qi257 : (1 < x5_1.length) = True := eq_true (by omega)
 (try rw [show ((1 : Int)).toNat = 1 from rfl] at hx257_0)
 replace p257 := eq_true p257
 replace q257 := eq_true q257
 have p259 : 0 ≤ (2 : Int) := (by omega)
 have q259 : 2 < (x5_1.length : Int) := of_decide_eq_true (by first | (with_reducible assumption) | assumption)
 obtain ⟨ad259, e259, hx259_0⟩ := Kd.at_string (Kd.R_reads' HO_5.out).2.2 2 p259 q259
 obtain rfl : ad257 = ad259 := (by injection e259)
 (try simp only [show (2 : Int).toNat = 2 from rfl, Nat.reduceMul, Nat.reduceEqDiff, Go.Addr.add, ↓reduceIte] at hx259_0)
 have qi259 : (2 < x5_1.length) = True := eq_true (by omega)
 (try rw [show ((2 : Int)).toNat = 2 from rfl] at hx259_0)
 replace p259 := eq_true p259
 replace q259 := eq_true q259
 refine start_ (n := 10) (S := fun w' => w'.cell? ⟨ad257.block, ad257.off + 1, none⟩ = some (.string (rdOf ByteArray.empty x5_1 1)) ∧ w'.cell? ⟨ad257.block, ad257.off + 2, none⟩ = some (.string (rdOf ByteArray.empty x5_1 2))) (ds := []) #[F,F,F,F,F,F,F,F,F,F] (by kernel_rfl) rfl rfl ⟨hx257_0, hx259_0⟩ (fun hHeld => ?_); refine with_tabW wigeonref09_head.tab10 wigeonref09_head.bits10 (fun HT_ HW_ => ?_)
 generalize wr.drew = w33 at HO_5 HB hx257_0 hx259_0 hHeld ⊢
 refine pure_ (i := 0) (N := some 40) (v := ?_) (a' := ?_) #[T,F,F,F,F,F,F,F,F,F] rfl rfl (any_of HT_.out (by kernel_rfl)) (fun _ _ _ h => h) (Or.inl ⟨by rfl, ?_⟩) ?_ ?_
 rotate_left;{
 intro w'
 go_simp
 with_reducible rfl}
 rotate_left;{
 simp only [ap,sA,s0,s1,i64_w,i32_w]
 rfl}
 refine pure_ (i := 1) (N := some 41) (v := ?_) (a' := ?_) #[T,T,F,F,F,F,F,F,F,F] rfl rfl (any_of HT_.out (by kernel_rfl)) (fun _ _ _ h => h) (Or.inl ⟨by rfl, ?_⟩) ?_ ?_
 rotate_left;{
 intro w'
 go_simp
 with_reducible rfl}
 rotate_left;{
 simp only [ap,sA,s0,s1,i64_w,i32_w]
 rfl}
 refine pure_ (i := 4) (N := some 44) (v := ?_) (a' := ?_) #[T,T,F,F,T,F,F,F,F,F] rfl rfl (any_of HT_.out (by kernel_rfl)) (fun _ _ _ h => h) (Or.inl ⟨by rfl, ?_⟩) ?_ ?_
 rotate_left;{
 intro w'
 go_simp
 with_reducible rfl}
 rotate_left;{
 simp only [ap,sA,s0,s1,i64_w,i32_w]
 rfl}
 refine pure_ (i := 5) (N := some 45) (v := ?_) (a' := ?_) #[T,T,F,F,T,T,F,F,F,F] rfl rfl (any_of HT_.out (by kernel_rfl)) (fun _ _ _ h => h) (Or.inl ⟨by rfl, ?_⟩) ?_ ?_
 rotate_left;{
 intro w'
 go_simp
 with_reducible rfl}
 rotate_left;{
 simp only [ap,sA,s0,s1,i64_w,i32_w]
 rfl}
 refine take_ (i := 2) (N := some 42) (v := ?_) (a' := ?_) #[T,T,T,F,T,T,F,F,F,F] rfl rfl (take_ofW HT_.out HW_.out (by kernel_rfl)) (fun _ _ _ h => h) (Or.inl ⟨by rfl, ?_⟩) hHeld ?_ ?_
 rotate_left;{
 rintro w' ⟨s0, s1⟩
 go_simp
 with_reducible rfl}
 rotate_left;{
 simp only [ap,sA,s0,s1,i64_w,i32_w]
 rfl}
 refine take_ (i := 6) (N := some 46) (v := ?_) (a' := ?_) #[T,T,T,F,T,T,T,F,F,F] rfl rfl (take_ofW HT_.out HW_.out (by kernel_rfl)) (fun _ _ _ h => h) (Or.inl ⟨by rfl, ?_⟩) hHeld ?_ ?_
 rotate_left;{
 rintro w' ⟨s0, s1⟩
 go_simp
 with_reducible rfl}
 rotate_left;{
 simp only [ap,sA,s0,s1,i64_w,i32_w]
 rfl}
 refine one_ (i := 3) (N := some 43) #[T,T,T,T,T,T,T,F,F,F] rfl rfl (one_of HT_.out (by kernel_rfl)) (by decide) (fun K hK => ?_)
 refine goes_ Tryd.func71 (by kernel_rfl) rfl #[.string (rdOf ByteArray.empty x5_1 1)] (by rfl) rfl rfl (by (try simp only [List.map_toArray, List.map_cons, List.map_nil]); first | done | rfl | (simp only [List.length_drop, List.length_take]; rfl)) ?_
 with_reducible refine (wigeonref09_number.calls k1 (rdOf ByteArray.empty x5_1 1) t258 _ A24.out).mono ?_
 rintro e w' ⟨rfl, ⟨nd, rfl⟩⟩
 refine ⟨_, rfl, ?_⟩
 refine hK.out _ _ ⟨hHeld.1, hHeld.2⟩ (fun hHeld => ?_)
 clear hK K
 refine norm_ (a' := ?_) ?_ ?_
 rotate_left;{
 show Act.put _ (some 43) _ = _
 simp only [ap,sA,s0,s1,i64_w,i32_w]
 rfl}
 refine one_ (i := 7) (N := some 47) #[T,T,T,T,T,T,T,T,F,F] rfl rfl (one_of HT_.out (by kernel_rfl)) (by decide) (fun K hK => ?_)
 refine goes_ Tryd.func71 (by kernel_rfl) rfl #[.string (rdOf ByteArray.empty x5_1 2)] (by rfl) rfl rfl (by (try simp only [List.map_toArray, List.map_cons, List.map_nil]); first | done | rfl | (simp only [List.length_drop, List.length_take]; rfl)) ?_
 with_reducible refine (wigeonref09_number.calls k1 (rdOf ByteArray.empty x5_1 2) t260 _ A26.out).mono ?_
 rintro e w' ⟨rfl, ⟨nd, rfl⟩⟩
 refine ⟨_, rfl, ?_⟩
 refine hK.out _ _ ⟨hHeld.1, hHeld.2⟩ (fun hHeld => ?_)
 clear hK K
 refine norm_ (a' := ?_) ?_ ?_
 rotate_left;{
 show Act.put _ (some 47) _ = _
 simp only [ap,sA,s0,s1,i64_w,i32_w]
 rfl}
 refine pure_ (i := 8) (N := some 7) (v := ?_) (a' := ?_) #[T,T,T,T,T,T,T,T,T,F] rfl rfl (any_of HT_.out (by kernel_rfl)) (fun _ _ _ h => h) (Or.inl ⟨by rfl, ?_⟩) ?_ ?_
 rotate_left;{
 intro w'
 go_simp
 with_reducible rfl}
 rotate_left;{
 simp only [ap,sA,s0,s1,i64_w,i32_w]
 rfl}
 refine pure_ (i := 9) (N := some 8) (v := ?_) (a' := ?_) #[T,T,T,T,T,T,T,T,T,T] rfl rfl (any_of HT_.out (by kernel_rfl)) (fun _ _ _ h => h) (Or.inl ⟨by rfl, ?_⟩) ?_ ?_
 rotate_left;{
 intro w'
 go_simp
 with_reducible rfl}
 rotate_left;{
 simp only [ap,sA,s0,s1,i64_w,i32_w]
 rfl}
 refine done_ (done_of HT_.out (by kernel_rfl)) ?_
 try go_wp2_with (first | (go_at_call 72; (with_reducible refine (wigeonref09_isSum.calls t260 true _ A29.out).mono ?_); rintro e w' ⟨rfl, ⟨nd, rfl⟩⟩) | (go_at_call 39; (with_reducible refine (wigeonref09_first.calls k1 t258 t260 t262 _ A31.out).mono ?_); rintro e w' ⟨rfl, ⟨nd, rfl⟩⟩))
 go_ret3
 exact ⟨by first | rfl | (simp [errW_none, errW_some] <;> rfl) | (simp [*, errW_none, errW_some] <;> rfl), by repeat (first | (with_reducible first | exact HB.out | apply below_alloc | apply pw_below_drewN | apply below_drew1) | exact HB.out)⟩}
 replace c30 := Bool.eq_false_iff.mpr c30
 subst c30
 have H1 : (some (t258, t260, false)) = some (r1, r2, r3) := by rw [if_neg (show ¬ (false = true) by decide)] at H; exact H
 clear H
 have H := H1
 clear H1
 simp only [Option.some.injEq, Prod.mk.injEq] at H
 obtain ⟨rfl, rfl, rfl⟩ := H
 obtain ⟨Ao34, co34, eo34⟩ := Kd.R_slice HO_5.out
 subst eo34
 try go_wp2
 have n0_ := am (Kd.R_drew HO_5.out)
 have n1_ := am (below_drew1 HB.out)
 clear HO_5
 clear HB
 have HO_5 := n0_
 have HB := n1_
 clear n0_ n1_
 have p257 : 0 ≤ (1 : Int) := (by omega)
 have q257 : 1 < (x5_1.length : Int) := of_decide_eq_true (by first | (with_reducible assumption) | assumption)
 obtain ⟨ad257, e257, hx257_0⟩ := Kd.at_string (Kd.R_reads' HO_5.out).2.2 1 p257 q257
 cases e257
 (try simp only [show (1 : Int).toNat = 1 from rfl, Nat.reduceMul, Nat.reduceEqDiff, Go.Addr.add, ↓reduceIte] at hx257_0)
 have qi257 : (1 < x5_1.length) = True := eq_true (by omega)
 (try rw [show ((1 : Int)).toNat = 1 from rfl] at hx257_0)
 replace p257 := eq_true p257
 replace q257 := eq_true q257
 have p259 : 0 ≤ (2 : Int) := (by omega)
 have q259 : 2 < (x5_1.length : Int) := of_decide_eq_true (by first | (with_reducible assumption) | assumption)
 obtain ⟨ad259, e259, hx259_0⟩ := Kd.at_string (Kd.R_reads' HO_5.out).2.2 2 p259 q259
 obtain rfl : ad257 = ad259 := (by injection e259)
 (try simp only [show (2 : Int).toNat = 2 from rfl, Nat.reduceMul, Nat.reduceEqDiff, Go.Addr.add, ↓reduceIte] at hx259_0)
 have qi259 : (2 < x5_1.length) = True := eq_true (by omega)
 (try rw [show ((2 : Int)).toNat = 2 from rfl] at hx259_0)
 replace p259 := eq_true p259
 replace q259 := eq_true q259
 refine start_ (n := 10) (S := fun w' => w'.cell? ⟨ad257.block, ad257.off + 1, none⟩ = some (.string (rdOf ByteArray.empty x5_1 1)) ∧ w'.cell? ⟨ad257.block, ad257.off + 2, none⟩ = some (.string (rdOf ByteArray.empty x5_1 2))) (ds := []) #[F,F,F,F,F,F,F,F,F,F] (by kernel_rfl) rfl rfl ⟨hx257_0, hx259_0⟩ (fun hHeld => ?_); refine with_tabW wigeonref09_head.tab10 wigeonref09_head.bits10 (fun HT_ HW_ => ?_)
 generalize wr.drew = w35 at HO_5 HB hx257_0 hx259_0 hHeld ⊢
 refine pure_ (i := 0) (N := some 40) (v := ?_) (a' := ?_) #[T,F,F,F,F,F,F,F,F,F] rfl rfl (any_of HT_.out (by kernel_rfl)) (fun _ _ _ h => h) (Or.inl ⟨by rfl, ?_⟩) ?_ ?_
 rotate_left;{
 intro w'
 go_simp
 with_reducible rfl}
 rotate_left;{
 simp only [ap,sA,s0,s1,i64_w,i32_w]
 rfl}
 refine pure_ (i := 1) (N := some 41) (v := ?_) (a' := ?_) #[T,T,F,F,F,F,F,F,F,F] rfl rfl (any_of HT_.out (by kernel_rfl)) (fun _ _ _ h => h) (Or.inl ⟨by rfl, ?_⟩) ?_ ?_
 rotate_left;{
 intro w'
 go_simp
 with_reducible rfl}
 rotate_left;{
 simp only [ap,sA,s0,s1,i64_w,i32_w]
 rfl}
 refine pure_ (i := 4) (N := some 44) (v := ?_) (a' := ?_) #[T,T,F,F,T,F,F,F,F,F] rfl rfl (any_of HT_.out (by kernel_rfl)) (fun _ _ _ h => h) (Or.inl ⟨by rfl, ?_⟩) ?_ ?_
 rotate_left;{
 intro w'
 go_simp
 with_reducible rfl}
 rotate_left;{
 simp only [ap,sA,s0,s1,i64_w,i32_w]
 rfl}
 refine pure_ (i := 5) (N := some 45) (v := ?_) (a' := ?_) #[T,T,F,F,T,T,F,F,F,F] rfl rfl (any_of HT_.out (by kernel_rfl)) (fun _ _ _ h => h) (Or.inl ⟨by rfl, ?_⟩) ?_ ?_
 rotate_left;{
 intro w'
 go_simp
 with_reducible rfl}
 rotate_left;{
 simp only [ap,sA,s0,s1,i64_w,i32_w]
 rfl}
 refine take_ (i := 2) (N := some 42) (v := ?_) (a' := ?_) #[T,T,T,F,T,T,F,F,F,F] rfl rfl (take_ofW HT_.out HW_.out (by kernel_rfl)) (fun _ _ _ h => h) (Or.inl ⟨by rfl, ?_⟩) hHeld ?_ ?_
 rotate_left;{
 rintro w' ⟨s0, s1⟩
 go_simp
 with_reducible rfl}
 rotate_left;{
 simp only [ap,sA,s0,s1,i64_w,i32_w]
 rfl}
 refine take_ (i := 6) (N := some 46) (v := ?_) (a' := ?_) #[T,T,T,F,T,T,T,F,F,F] rfl rfl (take_ofW HT_.out HW_.out (by kernel_rfl)) (fun _ _ _ h => h) (Or.inl ⟨by rfl, ?_⟩) hHeld ?_ ?_
 rotate_left;{
 rintro w' ⟨s0, s1⟩
 go_simp
 with_reducible rfl}
 rotate_left;{
 simp only [ap,sA,s0,s1,i64_w,i32_w]
 rfl}
 refine one_ (i := 3) (N := some 43) #[T,T,T,T,T,T,T,F,F,F] rfl rfl (one_of HT_.out (by kernel_rfl)) (by decide) (fun K hK => ?_)
 refine goes_ Tryd.func71 (by kernel_rfl) rfl #[.string (rdOf ByteArray.empty x5_1 1)] (by rfl) rfl rfl (by (try simp only [List.map_toArray, List.map_cons, List.map_nil]); first | done | rfl | (simp only [List.length_drop, List.length_take]; rfl)) ?_
 with_reducible refine (wigeonref09_number.calls k1 (rdOf ByteArray.empty x5_1 1) t258 _ A24.out).mono ?_
 rintro e w' ⟨rfl, ⟨nd, rfl⟩⟩
 refine ⟨_, rfl, ?_⟩
 refine hK.out _ _ ⟨hHeld.1, hHeld.2⟩ (fun hHeld => ?_)
 clear hK K
 refine norm_ (a' := ?_) ?_ ?_
 rotate_left;{
 show Act.put _ (some 43) _ = _
 simp only [ap,sA,s0,s1,i64_w,i32_w]
 rfl}
 refine one_ (i := 7) (N := some 47) #[T,T,T,T,T,T,T,T,F,F] rfl rfl (one_of HT_.out (by kernel_rfl)) (by decide) (fun K hK => ?_)
 refine goes_ Tryd.func71 (by kernel_rfl) rfl #[.string (rdOf ByteArray.empty x5_1 2)] (by rfl) rfl rfl (by (try simp only [List.map_toArray, List.map_cons, List.map_nil]); first | done | rfl | (simp only [List.length_drop, List.length_take]; rfl)) ?_
 with_reducible refine (wigeonref09_number.calls k1 (rdOf ByteArray.empty x5_1 2) t260 _ A26.out).mono ?_
 rintro e w' ⟨rfl, ⟨nd, rfl⟩⟩
 refine ⟨_, rfl, ?_⟩
 refine hK.out _ _ ⟨hHeld.1, hHeld.2⟩ (fun hHeld => ?_)
 clear hK K
 refine norm_ (a' := ?_) ?_ ?_
 rotate_left;{
 show Act.put _ (some 47) _ = _
 simp only [ap,sA,s0,s1,i64_w,i32_w]
 rfl}
 refine pure_ (i := 8) (N := some 7) (v := ?_) (a' := ?_) #[T,T,T,T,T,T,T,T,T,F] rfl rfl (any_of HT_.out (by kernel_rfl)) (fun _ _ _ h => h) (Or.inl ⟨by rfl, ?_⟩) ?_ ?_
 rotate_left;{
 intro w'
 go_simp
 with_reducible rfl}
 rotate_left;{
 simp only [ap,sA,s0,s1,i64_w,i32_w]
 rfl}
 refine pure_ (i := 9) (N := some 8) (v := ?_) (a' := ?_) #[T,T,T,T,T,T,T,T,T,T] rfl rfl (any_of HT_.out (by kernel_rfl)) (fun _ _ _ h => h) (Or.inl ⟨by rfl, ?_⟩) ?_ ?_
 rotate_left;{
 intro w'
 go_simp
 with_reducible rfl}
 rotate_left;{
 simp only [ap,sA,s0,s1,i64_w,i32_w]
 rfl}
 refine done_ (done_of HT_.out (by kernel_rfl)) ?_
 try go_wp2_with (first | (go_at_call 72; (with_reducible refine (wigeonref09_isSum.calls t260 false _ A29.out).mono ?_); rintro e w' ⟨rfl, ⟨nd, rfl⟩⟩))
 go_ret3
 exact ⟨by first | rfl | (simp [errW_none, errW_some] <;> rfl) | (simp [*, errW_none, errW_some] <;> rfl), by repeat (first | (with_reducible first | exact HB.out | apply below_alloc | apply pw_below_drewN | apply below_drew1) | exact HB.out)⟩}
 rw [if_neg c28] at H
 have c28b0 : decide (t258 ≤ 64) = false := decide_eq_false c28
 clear c28
 simp only [Option.some.injEq, Prod.mk.injEq] at H
 obtain ⟨rfl, rfl, rfl⟩ := H
 obtain ⟨Ao36, co36, eo36⟩ := Kd.R_slice HO_5.out
 subst eo36
 try go_wp2
 have n0_ := am (Kd.R_drew HO_5.out)
 have n1_ := am (below_drew1 HB.out)
 clear HO_5
 clear HB
 have HO_5 := n0_
 have HB := n1_
 clear n0_ n1_
 have p257 : 0 ≤ (1 : Int) := (by omega)
 have q257 : 1 < (x5_1.length : Int) := of_decide_eq_true (by first | (with_reducible assumption) | assumption)
 obtain ⟨ad257, e257, hx257_0⟩ := Kd.at_string (Kd.R_reads' HO_5.out).2.2 1 p257 q257
 cases e257
 (try simp only [show (1 : Int).toNat = 1 from rfl, Nat.reduceMul, Nat.reduceEqDiff, Go.Addr.add, ↓reduceIte] at hx257_0)
 have qi257 : (1 < x5_1.length) = True := eq_true (by omega)
 (try rw [show ((1 : Int)).toNat = 1 from rfl] at hx257_0)
 replace p257 := eq_true p257
 replace q257 := eq_true q257
 have p259 : 0 ≤ (2 : Int) := (by omega)
 have q259 : 2 < (x5_1.length : Int) := of_decide_eq_true (by first | (with_reducible assumption) | assumption)
 obtain ⟨ad259, e259, hx259_0⟩ := Kd.at_string (Kd.R_reads' HO_5.out).2.2 2 p259 q259
 obtain rfl : ad257 = ad259 := (by injection e259)
 (try simp only [show (2 : Int).toNat = 2 from rfl, Nat.reduceMul, Nat.reduceEqDiff, Go.Addr.add, ↓reduceIte] at hx259_0)
 have qi259 : (2 < x5_1.length) = True := eq_true (by omega)
 (try rw [show ((2 : Int)).toNat = 2 from rfl] at hx259_0)
 replace p259 := eq_true p259
 replace q259 := eq_true q259
 refine start_ (n := 10) (S := fun w' => w'.cell? ⟨ad257.block, ad257.off + 1, none⟩ = some (.string (rdOf ByteArray.empty x5_1 1)) ∧ w'.cell? ⟨ad257.block, ad257.off + 2, none⟩ = some (.string (rdOf ByteArray.empty x5_1 2))) (ds := []) #[F,F,F,F,F,F,F,F,F,F] (by kernel_rfl) rfl rfl ⟨hx257_0, hx259_0⟩ (fun hHeld => ?_); refine with_tabW wigeonref09_head.tab10 wigeonref09_head.bits10 (fun HT_ HW_ => ?_)
 generalize wr.drew = w37 at HO_5 HB hx257_0 hx259_0 hHeld ⊢
 refine pure_ (i := 0) (N := some 40) (v := ?_) (a' := ?_) #[T,F,F,F,F,F,F,F,F,F] rfl rfl (any_of HT_.out (by kernel_rfl)) (fun _ _ _ h => h) (Or.inl ⟨by rfl, ?_⟩) ?_ ?_
 rotate_left;{
 intro w'
 go_simp
 with_reducible rfl}
 rotate_left;{
 simp only [ap,sA,s0,s1,i64_w,i32_w]
 rfl}
 refine pure_ (i := 1) (N := some 41) (v := ?_) (a' := ?_) #[T,T,F,F,F,F,F,F,F,F] rfl rfl (any_of HT_.out (by kernel_rfl)) (fun _ _ _ h => h) (Or.inl ⟨by rfl, ?_⟩) ?_ ?_
 rotate_left;{
 intro w'
 go_simp
 with_reducible rfl}
 rotate_left;{
 simp only [ap,sA,s0,s1,i64_w,i32_w]
 rfl}
 refine pure_ (i := 4) (N := some 44) (v := ?_) (a' := ?_) #[T,T,F,F,T,F,F,F,F,F] rfl rfl (any_of HT_.out (by kernel_rfl)) (fun _ _ _ h => h) (Or.inl ⟨by rfl, ?_⟩) ?_ ?_
 rotate_left;{
 intro w'
 go_simp
 with_reducible rfl}
 rotate_left;{
 simp only [ap,sA,s0,s1,i64_w,i32_w]
 rfl}
 refine pure_ (i := 5) (N := some 45) (v := ?_) (a' := ?_) #[T,T,F,F,T,T,F,F,F,F] rfl rfl (any_of HT_.out (by kernel_rfl)) (fun _ _ _ h => h) (Or.inl ⟨by rfl, ?_⟩) ?_ ?_
 rotate_left;{
 intro w'
 go_simp
 with_reducible rfl}
 rotate_left;{
 simp only [ap,sA,s0,s1,i64_w,i32_w]
 rfl}
 refine take_ (i := 2) (N := some 42) (v := ?_) (a' := ?_) #[T,T,T,F,T,T,F,F,F,F] rfl rfl (take_ofW HT_.out HW_.out (by kernel_rfl)) (fun _ _ _ h => h) (Or.inl ⟨by rfl, ?_⟩) hHeld ?_ ?_
 rotate_left;{
 rintro w' ⟨s0, s1⟩
 go_simp
 with_reducible rfl}
 rotate_left;{
 simp only [ap,sA,s0,s1,i64_w,i32_w]
 rfl}
 refine take_ (i := 6) (N := some 46) (v := ?_) (a' := ?_) #[T,T,T,F,T,T,T,F,F,F] rfl rfl (take_ofW HT_.out HW_.out (by kernel_rfl)) (fun _ _ _ h => h) (Or.inl ⟨by rfl, ?_⟩) hHeld ?_ ?_
 rotate_left;{
 rintro w' ⟨s0, s1⟩
 go_simp
 with_reducible rfl}
 rotate_left;{
 simp only [ap,sA,s0,s1,i64_w,i32_w]
 rfl}
 refine one_ (i := 3) (N := some 43) #[T,T,T,T,T,T,T,F,F,F] rfl rfl (one_of HT_.out (by kernel_rfl)) (by decide) (fun K hK => ?_)
 refine goes_ Tryd.func71 (by kernel_rfl) rfl #[.string (rdOf ByteArray.empty x5_1 1)] (by rfl) rfl rfl (by (try simp only [List.map_toArray, List.map_cons, List.map_nil]); first | done | rfl | (simp only [List.length_drop, List.length_take]; rfl)) ?_
 with_reducible refine (wigeonref09_number.calls k1 (rdOf ByteArray.empty x5_1 1) t258 _ A24.out).mono ?_
 rintro e w' ⟨rfl, ⟨nd, rfl⟩⟩
 refine ⟨_, rfl, ?_⟩
 refine hK.out _ _ ⟨hHeld.1, hHeld.2⟩ (fun hHeld => ?_)
 clear hK K
 refine norm_ (a' := ?_) ?_ ?_
 rotate_left;{
 show Act.put _ (some 43) _ = _
 simp only [ap,sA,s0,s1,i64_w,i32_w]
 rfl}
 refine one_ (i := 7) (N := some 47) #[T,T,T,T,T,T,T,T,F,F] rfl rfl (one_of HT_.out (by kernel_rfl)) (by decide) (fun K hK => ?_)
 refine goes_ Tryd.func71 (by kernel_rfl) rfl #[.string (rdOf ByteArray.empty x5_1 2)] (by rfl) rfl rfl (by (try simp only [List.map_toArray, List.map_cons, List.map_nil]); first | done | rfl | (simp only [List.length_drop, List.length_take]; rfl)) ?_
 with_reducible refine (wigeonref09_number.calls k1 (rdOf ByteArray.empty x5_1 2) t260 _ A26.out).mono ?_
 rintro e w' ⟨rfl, ⟨nd, rfl⟩⟩
 refine ⟨_, rfl, ?_⟩
 refine hK.out _ _ ⟨hHeld.1, hHeld.2⟩ (fun hHeld => ?_)
 clear hK K
 refine norm_ (a' := ?_) ?_ ?_
 rotate_left;{
 show Act.put _ (some 47) _ = _
 simp only [ap,sA,s0,s1,i64_w,i32_w]
 rfl}
 refine pure_ (i := 8) (N := some 7) (v := ?_) (a' := ?_) #[T,T,T,T,T,T,T,T,T,F] rfl rfl (any_of HT_.out (by kernel_rfl)) (fun _ _ _ h => h) (Or.inl ⟨by rfl, ?_⟩) ?_ ?_
 rotate_left;{
 intro w'
 go_simp
 with_reducible rfl}
 rotate_left;{
 simp only [ap,sA,s0,s1,i64_w,i32_w]
 rfl}
 refine pure_ (i := 9) (N := some 8) (v := ?_) (a' := ?_) #[T,T,T,T,T,T,T,T,T,T] rfl rfl (any_of HT_.out (by kernel_rfl)) (fun _ _ _ h => h) (Or.inl ⟨by rfl, ?_⟩) ?_ ?_
 rotate_left;{
 intro w'
 go_simp
 with_reducible rfl}
 rotate_left;{
 simp only [ap,sA,s0,s1,i64_w,i32_w]
 rfl}
 refine done_ (done_of HT_.out (by kernel_rfl)) ?_
 try go_wp2
 go_ret3
 exact ⟨by first | rfl | (simp [errW_none, errW_some] <;> rfl) | (simp [*, errW_none, errW_some] <;> rfl), by repeat (first | (with_reducible first | exact HB.out | apply below_alloc | apply pw_below_drewN | apply below_drew1) | exact HB.out)⟩}
 rw [if_neg c27] at H
 have c27b0 : decide (0 ≤ t258) = false := decide_eq_false c27
 clear c27
 simp only [Option.some.injEq, Prod.mk.injEq] at H
 obtain ⟨rfl, rfl, rfl⟩ := H
 obtain ⟨Ao38, co38, eo38⟩ := Kd.R_slice HO_5.out
 subst eo38
 try go_wp2
 have n0_ := am (Kd.R_drew HO_5.out)
 have n1_ := am (below_drew1 HB.out)
 clear HO_5
 clear HB
 have HO_5 := n0_
 have HB := n1_
 clear n0_ n1_
 have p257 : 0 ≤ (1 : Int) := (by omega)
 have q257 : 1 < (x5_1.length : Int) := of_decide_eq_true (by first | (with_reducible assumption) | assumption)
 obtain ⟨ad257, e257, hx257_0⟩ := Kd.at_string (Kd.R_reads' HO_5.out).2.2 1 p257 q257
 cases e257
 (try simp only [show (1 : Int).toNat = 1 from rfl, Nat.reduceMul, Nat.reduceEqDiff, Go.Addr.add, ↓reduceIte] at hx257_0)
 have qi257 : (1 < x5_1.length) = True := eq_true (by omega)
 (try rw [show ((1 : Int)).toNat = 1 from rfl] at hx257_0)
 replace p257 := eq_true p257
 replace q257 := eq_true q257
 have p259 : 0 ≤ (2 : Int) := (by omega)
 have q259 : 2 < (x5_1.length : Int) := of_decide_eq_true (by first | (with_reducible assumption) | assumption)
 obtain ⟨ad259, e259, hx259_0⟩ := Kd.at_string (Kd.R_reads' HO_5.out).2.2 2 p259 q259
 obtain rfl : ad257 = ad259 := (by injection e259)
 (try simp only [show (2 : Int).toNat = 2 from rfl, Nat.reduceMul, Nat.reduceEqDiff, Go.Addr.add, ↓reduceIte] at hx259_0)
 have qi259 : (2 < x5_1.length) = True := eq_true (by omega)
 (try rw [show ((2 : Int)).toNat = 2 from rfl] at hx259_0)
 replace p259 := eq_true p259
 replace q259 := eq_true q259
 refine start_ (n := 10) (S := fun w' => w'.cell? ⟨ad257.block, ad257.off + 1, none⟩ = some (.string (rdOf ByteArray.empty x5_1 1)) ∧ w'.cell? ⟨ad257.block, ad257.off + 2, none⟩ = some (.string (rdOf ByteArray.empty x5_1 2))) (ds := []) #[F,F,F,F,F,F,F,F,F,F] (by kernel_rfl) rfl rfl ⟨hx257_0, hx259_0⟩ (fun hHeld => ?_); refine with_tabW wigeonref09_head.tab10 wigeonref09_head.bits10 (fun HT_ HW_ => ?_)
 generalize wr.drew = w39 at HO_5 HB hx257_0 hx259_0 hHeld ⊢
 refine pure_ (i := 0) (N := some 40) (v := ?_) (a' := ?_) #[T,F,F,F,F,F,F,F,F,F] rfl rfl (any_of HT_.out (by kernel_rfl)) (fun _ _ _ h => h) (Or.inl ⟨by rfl, ?_⟩) ?_ ?_
 rotate_left;{
 intro w'
 go_simp
 with_reducible rfl}
 rotate_left;{
 simp only [ap,sA,s0,s1,i64_w,i32_w]
 rfl}
 refine pure_ (i := 1) (N := some 41) (v := ?_) (a' := ?_) #[T,T,F,F,F,F,F,F,F,F] rfl rfl (any_of HT_.out (by kernel_rfl)) (fun _ _ _ h => h) (Or.inl ⟨by rfl, ?_⟩) ?_ ?_
 rotate_left;{
 intro w'
 go_simp
 with_reducible rfl}
 rotate_left;{
 simp only [ap,sA,s0,s1,i64_w,i32_w]
 rfl}
 refine pure_ (i := 4) (N := some 44) (v := ?_) (a' := ?_) #[T,T,F,F,T,F,F,F,F,F] rfl rfl (any_of HT_.out (by kernel_rfl)) (fun _ _ _ h => h) (Or.inl ⟨by rfl, ?_⟩) ?_ ?_
 rotate_left;{
 intro w'
 go_simp
 with_reducible rfl}
 rotate_left;{
 simp only [ap,sA,s0,s1,i64_w,i32_w]
 rfl}
 refine pure_ (i := 5) (N := some 45) (v := ?_) (a' := ?_) #[T,T,F,F,T,T,F,F,F,F] rfl rfl (any_of HT_.out (by kernel_rfl)) (fun _ _ _ h => h) (Or.inl ⟨by rfl, ?_⟩) ?_ ?_
 rotate_left;{
 intro w'
 go_simp
 with_reducible rfl}
 rotate_left;{
 simp only [ap,sA,s0,s1,i64_w,i32_w]
 rfl}
 refine take_ (i := 2) (N := some 42) (v := ?_) (a' := ?_) #[T,T,T,F,T,T,F,F,F,F] rfl rfl (take_ofW HT_.out HW_.out (by kernel_rfl)) (fun _ _ _ h => h) (Or.inl ⟨by rfl, ?_⟩) hHeld ?_ ?_
 rotate_left;{
 rintro w' ⟨s0, s1⟩
 go_simp
 with_reducible rfl}
 rotate_left;{
 simp only [ap,sA,s0,s1,i64_w,i32_w]
 rfl}
 refine take_ (i := 6) (N := some 46) (v := ?_) (a' := ?_) #[T,T,T,F,T,T,T,F,F,F] rfl rfl (take_ofW HT_.out HW_.out (by kernel_rfl)) (fun _ _ _ h => h) (Or.inl ⟨by rfl, ?_⟩) hHeld ?_ ?_
 rotate_left;{
 rintro w' ⟨s0, s1⟩
 go_simp
 with_reducible rfl}
 rotate_left;{
 simp only [ap,sA,s0,s1,i64_w,i32_w]
 rfl}
 refine one_ (i := 3) (N := some 43) #[T,T,T,T,T,T,T,F,F,F] rfl rfl (one_of HT_.out (by kernel_rfl)) (by decide) (fun K hK => ?_)
 refine goes_ Tryd.func71 (by kernel_rfl) rfl #[.string (rdOf ByteArray.empty x5_1 1)] (by rfl) rfl rfl (by (try simp only [List.map_toArray, List.map_cons, List.map_nil]); first | done | rfl | (simp only [List.length_drop, List.length_take]; rfl)) ?_
 with_reducible refine (wigeonref09_number.calls k1 (rdOf ByteArray.empty x5_1 1) t258 _ A24.out).mono ?_
 rintro e w' ⟨rfl, ⟨nd, rfl⟩⟩
 refine ⟨_, rfl, ?_⟩
 refine hK.out _ _ ⟨hHeld.1, hHeld.2⟩ (fun hHeld => ?_)
 clear hK K
 refine norm_ (a' := ?_) ?_ ?_
 rotate_left;{
 show Act.put _ (some 43) _ = _
 simp only [ap,sA,s0,s1,i64_w,i32_w]
 rfl}
 refine one_ (i := 7) (N := some 47) #[T,T,T,T,T,T,T,T,F,F] rfl rfl (one_of HT_.out (by kernel_rfl)) (by decide) (fun K hK => ?_)
 refine goes_ Tryd.func71 (by kernel_rfl) rfl #[.string (rdOf ByteArray.empty x5_1 2)] (by rfl) rfl rfl (by (try simp only [List.map_toArray, List.map_cons, List.map_nil]); first | done | rfl | (simp only [List.length_drop, List.length_take]; rfl)) ?_
 with_reducible refine (wigeonref09_number.calls k1 (rdOf ByteArray.empty x5_1 2) t260 _ A26.out).mono ?_
 rintro e w' ⟨rfl, ⟨nd, rfl⟩⟩
 refine ⟨_, rfl, ?_⟩
 refine hK.out _ _ ⟨hHeld.1, hHeld.2⟩ (fun hHeld => ?_)
 clear hK K
 refine norm_ (a' := ?_) ?_ ?_
 rotate_left;{
 show Act.put _ (some 47) _ = _
 simp only [ap,sA,s0,s1,i64_w,i32_w]
 rfl}
 refine pure_ (i := 8) (N := some 7) (v := ?_) (a' := ?_) #[T,T,T,T,T,T,T,T,T,F] rfl rfl (any_of HT_.out (by kernel_rfl)) (fun _ _ _ h => h) (Or.inl ⟨by rfl, ?_⟩) ?_ ?_
 rotate_left;{
 intro w'
 go_simp
 with_reducible rfl}
 rotate_left;{
 simp only [ap,sA,s0,s1,i64_w,i32_w]
 rfl}
 refine pure_ (i := 9) (N := some 8) (v := ?_) (a' := ?_) #[T,T,T,T,T,T,T,T,T,T] rfl rfl (any_of HT_.out (by kernel_rfl)) (fun _ _ _ h => h) (Or.inl ⟨by rfl, ?_⟩) ?_ ?_
 rotate_left;{
 intro w'
 go_simp
 with_reducible rfl}
 rotate_left;{
 simp only [ap,sA,s0,s1,i64_w,i32_w]
 rfl}
 refine done_ (done_of HT_.out (by kernel_rfl)) ?_
 try go_wp2
 go_ret3
 exact ⟨by first | rfl | (simp [errW_none, errW_some] <;> rfl) | (simp [*, errW_none, errW_some] <;> rfl), by repeat (first | (with_reducible first | exact HB.out | apply below_alloc | apply pw_below_drewN | apply below_drew1) | exact HB.out)⟩}
 rw [if_neg c25] at H
 exact absurd H (by simp)}
 rw [if_neg c23] at H
 exact absurd H (by simp)}
  rw [if_neg c22] at H
  have c22b0 : ((x5_1.length : Int) == 3) = false := beq_eq_false_iff_ne.mpr c22
  have c22b1 : ((x5_1.length : Int) != 3) = true := bne_iff_ne.mpr c22
  simp only [Option.some.injEq, Prod.mk.injEq] at H
  obtain ⟨rfl, rfl, rfl⟩ := H
  obtain ⟨Ao40, co40, eo40⟩ := Kd.R_slice HO_5.out
  subst eo40
  go_wp2
  go_ret3
  exact ⟨by first | rfl | (simp [errW_none, errW_some] <;> rfl) | (simp [*, errW_none, errW_some] <;> rfl), by repeat (first | (with_reducible first | exact HB.out | apply below_alloc | apply pw_below_drewN | apply below_drew1) | exact HB.out)⟩)
end Go.Proofs.YtfccgfjiplnmfaaDoor.BA

