/- Of the text BAx26, what the row of TopBook reaches. -/
import Derived.Test.YtfccgfjiplnmfaaDoorZTopBookBAx0
import Derived.Test.YtfccgfjiplnmfaaDoorZTopBookBAx10
import Derived.Test.YtfccgfjiplnmfaaDoorZTopBookBAx12
import Derived.Test.YtfccgfjiplnmfaaDoorZTopBookBAx24
import Derived.Test.YtfccgfjiplnmfaaDoorZTopBookBAx25
namespace Go.Proofs.YtfccgfjiplnmfaaDoor.BA
open Go.RowKit Go.Proofs.YtfccgfjiplnmfaaDoorW.PrintWords Go.Proofs.YtfccgfjiplnmfaaDoorW.PrintLast Go.Proofs.YtfccgfjiplnmfaaDoorW.PrintMore
attribute [local go_sem] max2_int min2_int max_two min_two max_three min_three max_four min_four   -- for this text's walks alone
set_option linter.unusedVariables false
set_option linter.unusedSimpArgs false

def book_page_text.f (a0 : ByteArray) : Option (ByteArray) := some a0
set_option maxHeartbeats 8000000 in
set_option maxRecDepth 100000 in
theorem book_page_text.calls (a0 : ByteArray) (r : ByteArray) (w : World) (h : book_page_text.f a0 = some r) :
    Calls Tryd.prog 54 #[.string a0] w fun e w' => e = .returned (.string r) ∧ Drawn0 w w' := by
  have H : (some a0) = some r := h
  clear h
  obtain rfl := Option.some.inj H
  go_enter Tryd.func54, Tryd.ntmps54
  go_wp2
  go_ret
  exact ⟨by first | rfl | (simp; done) | (simp [*]; done) | (simp [IntKind.wrap_i64, wrap64]; done), by repeat (first | exact Drawn0.refl _ | apply Drawn0.step)⟩

def book_read.l0 : Nat → List ByteArray → ByteArray → Int → Int → Option (List ByteArray × ByteArray × Bool × Int)
  | 0, _, _, _, _ => none
  | k + 1, x2, x3, x6, x7 => if (x2.length : Int) < x6 then ((book_next.f x3).bind fun bt227 => (if bt227.2 = true then ((book_page_text.f bt227.1).bind fun t229 => (if x2.length < 8796093022208 then (if 0 ≤ (wrap64 ((bt227.1.size : Int) + 1)) then (if (wrap64 ((bt227.1.size : Int) + 1)) ≤ (x3.size : Int) then (book_read.l0 k (x2 ++ [t229]) (x3.extract ((wrap64 ((bt227.1.size : Int) + 1)) : Int).toNat x3.size) x6 x7) else (none)) else (none)) else (none))) else (some (x2, x3, false, 0)))) else ((book_leaves.f k x2).bind fun t233 => ((book_root.f k t233).bind fun t236 => (if t236 = x7 then (some (x2, x3, true, 0)) else (some (([] : List ByteArray), (⟨#[]⟩ : ByteArray), false, 7)))))
def book_read.f (k : Nat) (a0 : ByteArray) : Option (List ByteArray × ByteArray × Bool × Int) := (book_head.f k a0).bind fun bt223 => (if bt223.2.2.2 = true then (book_read.l0 k ([] : List ByteArray) bt223.2.2.1 bt223.1 bt223.2.1) else (some (([] : List ByteArray), (⟨#[]⟩ : ByteArray), false, 2)))
set_option maxHeartbeats 8000000 in
set_option maxRecDepth 100000 in
theorem book_read.calls (k : Nat) (a0 : ByteArray) (r1 : List ByteArray) (r2 : ByteArray) (r3 : Bool) (r4 : Int) (w : World) (hE : Env w) (h : book_read.f k a0 = some (r1, r2, r3, r4)) :
    Calls Tryd.prog 34 #[.string a0] w fun e w' => ∃ v0_ : Value, e = .returned (.tuple #[v0_, .string r2, .bool r3, .int .i64 r4]) ∧ Kd.R Kd.string 9 w' w.heap.size (fun _ => True) v0_ r1 ∧ Below w.heap.size w w' := by
  have HB := Aside0.mk (Below.refl w.heap.size w)
  have H : ((book_head.f k a0).bind fun bt223 => (if bt223.2.2.2 = true then (book_read.l0 k ([] : List ByteArray) bt223.2.2.1 bt223.1 bt223.2.1) else (some (([] : List ByteArray), (⟨#[]⟩ : ByteArray), false, 2)))) = some (r1, r2, r3, r4) := h
  clear h
  replace H := Option.bind_eq_some_iff.mp H
  obtain ⟨⟨t223, t224, t225, t226⟩, A20, H⟩ := H
  replace H : (if t226 = true then (book_read.l0 k ([] : List ByteArray) t225 t223 t224) else (some (([] : List ByteArray), (⟨#[]⟩ : ByteArray), false, 2))) = some (r1, r2, r3, r4) := H
  have A2 := Aside0.mk A20
  clear A20
  by_cases c3 : t226 = true
  · subst c3
    have H1 : (book_read.l0 k ([] : List ByteArray) t225 t223 t224) = some (r1, r2, r3, r4) := by rw [if_pos rfl] at H; exact H
    clear H
    have H := H1
    clear H1
    have H' := Aside0.mk H
    clear H
    go_enter Tryd.func34, Tryd.ntmps34
    go_wp2_with (first | ((with_reducible refine gate_callee (f := 52) rfl ?_); refine goesL_ (some 13) rfl rfl Tryd.func52 (by kernel_rfl) rfl #[.string a0] rfl (by (try simp only [List.map_toArray, List.map_cons, List.map_nil]); first | done | rfl | (simp only [List.length_drop, List.length_take]; rfl)) ?_; (with_reducible refine (book_head.calls k a0 t223 t224 t225 true _ (Env.below hE (by repeat (first | (with_reducible first | exact HB.out | apply below_alloc | apply pw_below_drewN | apply below_drew1) | exact HB.out))) A2.out).mono ?_); rintro e w4 ⟨rfl, hb⟩; refine ⟨_, rfl, ?_⟩; have n0_ := Aside0.mk (below_step (by repeat (first | (with_reducible first | exact HB.out | apply below_alloc | apply pw_below_drewN | apply below_drew1) | exact HB.out)) hb); clear HB; have HB := n0_; clear n0_; (try clear hb); (try clear hb2); (try clear hk); (try clear hi)))
    go_loopg [2, 3] k (fun kq v2 v3 w' => ∃ (x2_1 : List ByteArray) (x3_1 : ByteArray), v3 = .string x3_1 ∧ Aside0 (book_read.l0 kq x2_1 x3_1 t223 t224 = some (r1, r2, r3, r4)) ∧ Aside0 (kq ≤ k) ∧ Aside0 (Kd.R Kd.string 9 w' w.heap.size (fun _ => True) v2 x2_1) ∧ Aside0 (Below w.heap.size w w'))
    case atStart => exact ⟨(([] : List ByteArray)), (t225), (by first | rfl | (simp; done) | (simp [*]; done)), H', ⟨Nat.le_refl _⟩, ⟨by first | exact Kd.R_nil _ _ _ _ _ | exact Kd.N_nil _ _ _ _ _ | exact Kd.V_nil _ _ _ _ _ | exact Kd.Q_nil _ _ _ _ _ | exact Kd.S_nil _ _ _ _ _⟩, ⟨by repeat (first | (with_reducible first | exact HB.out | apply below_alloc | apply pw_below_drewN | apply below_drew1) | exact HB.out)⟩⟩
    case round =>
      clear H'
      try clear p2
      try clear c3
      obtain ⟨x2_1, x3_1, rfl, HA, HK1, HO_2, HB⟩ := hrel
      cases gk with
      | zero => exact absurd HA.out (by simp [book_read.l0])
      | succ k1 =>
        have H := HA.out
        clear HA
        simp only [book_read.l0] at H
        by_cases c5 : (x2_1.length : Int) < t223
        · rw [if_pos c5] at H
          have c5b0 : decide ((x2_1.length : Int) < t223) = true := decide_eq_true c5
          clear c5
          replace H := Option.bind_eq_some_iff.mp H
          obtain ⟨⟨t227, t228⟩, A60, H⟩ := H
          replace H : (if t228 = true then ((book_page_text.f t227).bind fun t229 => (if x2_1.length < 8796093022208 then (if 0 ≤ (wrap64 ((t227.size : Int) + 1)) then (if (wrap64 ((t227.size : Int) + 1)) ≤ (x3_1.size : Int) then (book_read.l0 k1 (x2_1 ++ [t229]) (x3_1.extract ((wrap64 ((t227.size : Int) + 1)) : Int).toNat x3_1.size) t223 t224) else (none)) else (none)) else (none))) else (some (x2_1, x3_1, false, 0))) = some (r1, r2, r3, r4) := H
          have A6 := Aside0.mk A60
          clear A60
          by_cases c7 : t228 = true
          · subst c7
            have H1 : ((book_page_text.f t227).bind fun t229 => (if x2_1.length < 8796093022208 then (if 0 ≤ (wrap64 ((t227.size : Int) + 1)) then (if (wrap64 ((t227.size : Int) + 1)) ≤ (x3_1.size : Int) then (book_read.l0 k1 (x2_1 ++ [t229]) (x3_1.extract ((wrap64 ((t227.size : Int) + 1)) : Int).toNat x3_1.size) t223 t224) else (none)) else (none)) else (none))) = some (r1, r2, r3, r4) := by rw [if_pos rfl] at H; exact H
            clear H
            have H := H1
            clear H1
            replace H := Option.bind_eq_some_iff.mp H
            obtain ⟨t229, A80, H⟩ := H
            replace H : (if x2_1.length < 8796093022208 then (if 0 ≤ (wrap64 ((t227.size : Int) + 1)) then (if (wrap64 ((t227.size : Int) + 1)) ≤ (x3_1.size : Int) then (book_read.l0 k1 (x2_1 ++ [t229]) (x3_1.extract ((wrap64 ((t227.size : Int) + 1)) : Int).toNat x3_1.size) t223 t224) else (none)) else (none)) else (none)) = some (r1, r2, r3, r4) := H
            have A8 := Aside0.mk A80
            clear A80
            by_cases c9 : x2_1.length < 8796093022208
            · rw [if_pos c9] at H
              have LMc9 := Aside0.mk c9
              clear c9
              obtain ⟨y230, hy230⟩ : ∃ y_ : List ByteArray, y_ = (x2_1 ++ [t229]) := ⟨_, rfl⟩
              replace H : (if 0 ≤ (wrap64 ((t227.size : Int) + 1)) then (if (wrap64 ((t227.size : Int) + 1)) ≤ (x3_1.size : Int) then (book_read.l0 k1 y230 (x3_1.extract ((wrap64 ((t227.size : Int) + 1)) : Int).toNat x3_1.size) t223 t224) else (none)) else (none)) = some (r1, r2, r3, r4) := by first | (rw [hy230]; with_reducible exact H) | (have H2_ := (Option.bind_some _ _).symm.trans H; rw [hy230]; with_reducible exact H2_) | (have H2_ := (Option.bind_some _ _).symm.trans H; with_reducible exact H2_) | with_reducible exact H | (rw [hy230]; exact H) | exact H
              have Ny230 := Aside0.mk hy230
              clear hy230
              obtain ⟨ji10, hji10⟩ : ∃ j_ : Int, (wrap64 ((t227.size : Int) + 1)) = j_ := ⟨_, rfl⟩
              replace H : (if 0 ≤ (ji10) then (if (ji10) ≤ (x3_1.size : Int) then (book_read.l0 k1 y230 (x3_1.extract ((ji10) : Int).toNat x3_1.size) t223 t224) else (none)) else (none)) = some (r1, r2, r3, r4) := by first | (rw [hji10] at H; exact H) | (simp only [hji10] at H ⊢; exact H)
              (try rw [hji10] at A6)
              (try rw [hji10] at A8)
              have hji10w : (IntKind.i64.wrap ((t227.size : Int) + 1)) = ji10 := (i64_w _).trans hji10
              by_cases c11 : 0 ≤ (ji10)
              · rw [if_pos c11] at H
                have c11b0 := eq_true c11
                have c11b1 : decide (0 ≤ (ji10)) = true := decide_eq_true c11
                clear c11
                by_cases c12 : (ji10) ≤ (x3_1.size : Int)
                · rw [if_pos c12] at H
                  have c12b0 := eq_true c12
                  have c12b1 : decide ((ji10) ≤ (x3_1.size : Int)) = true := decide_eq_true c12
                  clear c12
                  have H' := Aside0.mk H
                  clear H
                  obtain ⟨Ao13, co13, eo13⟩ := Kd.R_slice HO_2.out
                  subst eo13
                  go_wp2_with (first | ((with_reducible refine gate_callee (f := 53) rfl ?_); refine goesL_ (some 25) rfl rfl Tryd.func53 (by kernel_rfl) rfl #[.string x3_1] rfl (by (try simp only [List.map_toArray, List.map_cons, List.map_nil]); first | done | rfl | (simp only [List.length_drop, List.length_take]; rfl)) ?_; (with_reducible refine (book_next.calls x3_1 t227 true _ A6.out).mono ?_); rintro e w14 ⟨rfl, hb⟩; refine ⟨_, rfl, ?_⟩; (try simp only [lineV_t, lineV_f]); have n0_ := Aside0.mk (Kd.R_below (by (with_reducible repeat (first | apply Kd.R_alloc | apply Kd.R_drewN | apply Kd.R_drew)); exact HO_2.out) hb); have n1_ := Aside0.mk (below_step (by repeat (first | (with_reducible first | exact HB.out | apply below_alloc | apply pw_below_drewN | apply below_drew1) | exact HB.out)) hb); clear HO_2; clear HB; have HO_2 := n0_; have HB := n1_; clear n0_ n1_; (try clear hb); (try clear hb2); (try clear hk); (try clear hi)) | ((with_reducible refine gate_callee (f := 54) rfl ?_); refine goesL_ (some 31) rfl rfl Tryd.func54 (by kernel_rfl) rfl #[.string t227] rfl (by (try simp only [List.map_toArray, List.map_cons, List.map_nil]); first | done | rfl | (simp only [List.length_drop, List.length_take]; rfl)) ?_; (with_reducible refine (book_page_text.calls t227 t229 _ A8.out).mono ?_); rintro e w' ⟨rfl, ⟨nd, rfl⟩⟩; refine ⟨_, rfl, ?_⟩) | ((with_reducible refine gate_builtin (b := .append) (xs := #[.tmp 29, .tmp 32]) rfl ?_); at_builtin; refine Kd.R_append Kd.string (w0 := w) w.heap.size rfl (.tmp 29) (.tmp 32) 22 9 (.string ⟨#[]⟩) 16 rfl Tryd.underlying22 info9 rfl (by decide) (by omega) (.slice Ao13 x2_1.length co13) x2_1 t229 [.string t229] (fun _ => True) (fun _ => False) rfl rfl ?aP (fun _ hk => hk.elim) ?aF ?aO ?aB ?aS ?aL ?_; (case aP => exact rfl); (case aB => exact (by repeat (first | (with_reducible first | exact HB.out | apply below_alloc | apply pw_below_drewN | apply below_drew1) | exact HB.out))); (case aF => exact (fun _ _ => trivial)); (case aO => exact (by (with_reducible repeat (first | apply Kd.R_alloc | apply Kd.R_drewN | apply Kd.R_drew)); exact HO_2.out)); (case aS => exact (below_size (by repeat (first | (with_reducible first | exact HB.out | apply below_alloc | apply pw_below_drewN | apply below_drew1) | exact HB.out)))); (case aL => have := LMc9.out; omega); intro v231 w15 ho hb hg hat; rw [← Ny230.out] at ho; have n0_ := Aside0.mk (hb); have n1_ := Aside0.mk (ho); clear HB; clear HO_2; have HB := n0_; have HO232 := n1_; clear n0_ n1_; clear ho hb hg hat))
                  go_roundg k1
                  case measure => have := HK1.out; omega
                  case rel => exact ⟨(y230), (x3_1.extract ((ji10) : Int).toNat x3_1.size), (by first | rfl | (simp; done) | (simp only [← hji10] <;> (first | rfl | simp)) | (simp [*]; done)), H', ⟨by have := HK1.out; omega⟩, ⟨by (with_reducible repeat (first | apply Kd.R_alloc | apply Kd.R_drewN | apply Kd.R_drew)); exact HO232.out⟩, ⟨by repeat (first | (with_reducible first | exact HB.out | apply below_alloc | apply pw_below_drewN | apply below_drew1) | exact HB.out)⟩⟩
                · rw [if_neg c12] at H
                  exact absurd H (by simp)
              · rw [if_neg c11] at H
                exact absurd H (by simp)
            · rw [if_neg c9] at H
              exact absurd H (by simp)
          · replace c7 := Bool.eq_false_iff.mpr c7
            subst c7
            have H1 : (some (x2_1, x3_1, false, 0)) = some (r1, r2, r3, r4) := by rw [if_neg (show ¬ (false = true) by decide)] at H; exact H
            clear H
            have H := H1
            clear H1
            simp only [Option.some.injEq, Prod.mk.injEq] at H
            obtain ⟨rfl, rfl, rfl, rfl⟩ := H
            obtain ⟨Ao16, co16, eo16⟩ := Kd.R_slice HO_2.out
            subst eo16
            go_wp2_with (first | ((with_reducible refine gate_callee (f := 53) rfl ?_); refine goesL_ (some 25) rfl rfl Tryd.func53 (by kernel_rfl) rfl #[.string x3_1] rfl (by (try simp only [List.map_toArray, List.map_cons, List.map_nil]); first | done | rfl | (simp only [List.length_drop, List.length_take]; rfl)) ?_; (with_reducible refine (book_next.calls x3_1 t227 false _ A6.out).mono ?_); rintro e w17 ⟨rfl, hb⟩; refine ⟨_, rfl, ?_⟩; (try simp only [lineV_t, lineV_f]); have n0_ := Aside0.mk (Kd.R_below (by (with_reducible repeat (first | apply Kd.R_alloc | apply Kd.R_drewN | apply Kd.R_drew)); exact HO_2.out) hb); have n1_ := Aside0.mk (below_step (by repeat (first | (with_reducible first | exact HB.out | apply below_alloc | apply pw_below_drewN | apply below_drew1) | exact HB.out)) hb); clear HO_2; clear HB; have HO_2 := n0_; have HB := n1_; clear n0_ n1_; (try clear hb); (try clear hb2); (try clear hk); (try clear hi)))
            refine bodyPost_ret (results_list (rs := [.tmp 2, .tmp 3, .tmp 4, .tmp 5]) rfl (by simp) (.tmp (.tmp (.tmp (.tmp .nil))))) rfl ?_
            exact ⟨_, by first | rfl | (simp [errW_none, errW_some] <;> rfl) | (simp [*, errW_none, errW_some] <;> rfl), by (with_reducible repeat (first | apply Kd.R_alloc | apply Kd.R_drewN | apply Kd.R_drew)); exact HO_2.out, by repeat (first | (with_reducible first | exact HB.out | apply below_alloc | apply pw_below_drewN | apply below_drew1) | exact HB.out)⟩
        · rw [if_neg c5] at H
          have c5b0 : decide ((x2_1.length : Int) < t223) = false := decide_eq_false c5
          clear c5
          replace H := Option.bind_eq_some_iff.mp H
          obtain ⟨t233, A180, H⟩ := H
          replace H : ((book_root.f k1 t233).bind fun t236 => (if t236 = t224 then (some (x2_1, x3_1, true, 0)) else (some (([] : List ByteArray), (⟨#[]⟩ : ByteArray), false, 7)))) = some (r1, r2, r3, r4) := H
          have A18 := Aside0.mk A180
          clear A180
          replace H := Option.bind_eq_some_iff.mp H
          obtain ⟨t236, A190, H⟩ := H
          replace H : (if t236 = t224 then (some (x2_1, x3_1, true, 0)) else (some (([] : List ByteArray), (⟨#[]⟩ : ByteArray), false, 7))) = some (r1, r2, r3, r4) := H
          have A19 := Aside0.mk A190
          clear A190
          by_cases c20 : t236 = t224
          · rw [if_pos c20] at H
            have c20b0 : (t236 == t224) = true := beq_iff_eq.mpr c20
            have c20b1 : (t236 != t224) = false := bne_eq_false_iff_eq.mpr c20
            clear c20
            simp only [Option.some.injEq, Prod.mk.injEq] at H
            obtain ⟨rfl, rfl, rfl, rfl⟩ := H
            obtain ⟨Ao21, co21, eo21⟩ := Kd.R_slice HO_2.out
            subst eo21
            go_wp2_with (first | ((with_reducible refine gate_callee (f := 27) rfl ?_); refine goesL_ (some 45) rfl rfl Tryd.func27 (by kernel_rfl) rfl #[.slice Ao21 x2_1.length co21] rfl (by (try simp only [List.map_toArray, List.map_cons, List.map_nil]); first | done | rfl | (simp only [List.length_drop, List.length_take]; rfl)) ?_; (with_reducible refine (book_leaves.calls k1 _ _ x2_1 t233 _ ?side1 ?side2 A18.out).mono ?_); (case side1 => repeat (first | exact (Kd.R_reads' HO_2.out).2.2 | (with_reducible refine Kd.C_alloc ?_ _) | (with_reducible refine Kd.C_drewN ?_ _) | (with_reducible refine Kd.C_drew ?_))); (case side2 => exact (Kd.R_reads' HO_2.out).2.1); rintro e w22 ⟨v234, rfl, ho0, hb⟩; refine ⟨_, rfl, ?_⟩; have n0_ := Aside0.mk (Kd.R_below (by (with_reducible repeat (first | apply Kd.R_alloc | apply Kd.R_drewN | apply Kd.R_drew)); exact HO_2.out) hb); have n1_ := Aside0.mk (Kd.R_lower ho0 (below_size (by repeat (first | (with_reducible first | exact HB.out | apply below_alloc | apply pw_below_drewN | apply below_drew1) | exact HB.out)))); have n2_ := Aside0.mk (below_step (by repeat (first | (with_reducible first | exact HB.out | apply below_alloc | apply pw_below_drewN | apply below_drew1) | exact HB.out)) hb); clear HO_2; clear HB; have HO_2 := n0_; have HO235 := n1_; have HB := n2_; clear n0_ n1_ n2_; (try clear hb); (try clear hb2); (try clear hk); (try clear hi); (try clear ho0); obtain ⟨Ao23, co23, eo23⟩ := Kd.R_slice HO235.out; subst eo23) | ((with_reducible refine gate_callee (f := 26) rfl ?_); refine goesL_ (some 46) rfl rfl Tryd.func26 (by kernel_rfl) rfl #[.slice Ao23 t233.length co23] rfl (by (try simp only [List.map_toArray, List.map_cons, List.map_nil]); first | done | rfl | (simp only [List.length_drop, List.length_take]; rfl)) ?_; (with_reducible refine (book_root.calls k1 _ _ t233 t236 _ ?side1 ?side2 A19.out).mono ?_); (case side1 => repeat (first | exact (Kd.R_reads' HO235.out).2.2 | (with_reducible refine Kd.C_alloc ?_ _) | (with_reducible refine Kd.C_drewN ?_ _) | (with_reducible refine Kd.C_drew ?_))); (case side2 => exact (Kd.R_reads' HO235.out).2.1); rintro e w24 ⟨rfl, hb⟩; refine ⟨_, rfl, ?_⟩; have n0_ := Aside0.mk (Kd.R_below (by (with_reducible repeat (first | apply Kd.R_alloc | apply Kd.R_drewN | apply Kd.R_drew)); exact HO_2.out) hb); have n1_ := Aside0.mk (Kd.R_below (by (with_reducible repeat (first | apply Kd.R_alloc | apply Kd.R_drewN | apply Kd.R_drew)); exact HO235.out) hb); have n2_ := Aside0.mk (below_step (by repeat (first | (with_reducible first | exact HB.out | apply below_alloc | apply pw_below_drewN | apply below_drew1) | exact HB.out)) hb); clear HO_2; clear HO235; clear HB; have HO_2 := n0_; have HO235 := n1_; have HB := n2_; clear n0_ n1_ n2_; (try clear hb); (try clear hb2); (try clear hk); (try clear hi)))
            refine bodyPost_ret (results_list (rs := [.tmp 2, .tmp 3, .tmp 4, .tmp 5]) rfl (by simp) (.tmp (.tmp (.tmp (.tmp .nil))))) rfl ?_
            exact ⟨_, by first | rfl | (simp [errW_none, errW_some] <;> rfl) | (simp [*, errW_none, errW_some] <;> rfl), by (with_reducible repeat (first | apply Kd.R_alloc | apply Kd.R_drewN | apply Kd.R_drew)); exact HO_2.out, by repeat (first | (with_reducible first | exact HB.out | apply below_alloc | apply pw_below_drewN | apply below_drew1) | exact HB.out)⟩
          · rw [if_neg c20] at H
            have c20b0 : (t236 == t224) = false := beq_eq_false_iff_ne.mpr c20
            have c20b1 : (t236 != t224) = true := bne_iff_ne.mpr c20
            simp only [Option.some.injEq, Prod.mk.injEq] at H
            obtain ⟨rfl, rfl, rfl, rfl⟩ := H
            obtain ⟨Ao25, co25, eo25⟩ := Kd.R_slice HO_2.out
            subst eo25
            go_wp2_with (first | ((with_reducible refine gate_callee (f := 27) rfl ?_); refine goesL_ (some 45) rfl rfl Tryd.func27 (by kernel_rfl) rfl #[.slice Ao25 x2_1.length co25] rfl (by (try simp only [List.map_toArray, List.map_cons, List.map_nil]); first | done | rfl | (simp only [List.length_drop, List.length_take]; rfl)) ?_; (with_reducible refine (book_leaves.calls k1 _ _ x2_1 t233 _ ?side1 ?side2 A18.out).mono ?_); (case side1 => repeat (first | exact (Kd.R_reads' HO_2.out).2.2 | (with_reducible refine Kd.C_alloc ?_ _) | (with_reducible refine Kd.C_drewN ?_ _) | (with_reducible refine Kd.C_drew ?_))); (case side2 => exact (Kd.R_reads' HO_2.out).2.1); rintro e w26 ⟨v234, rfl, ho0, hb⟩; refine ⟨_, rfl, ?_⟩; have n0_ := Aside0.mk (Kd.R_below (by (with_reducible repeat (first | apply Kd.R_alloc | apply Kd.R_drewN | apply Kd.R_drew)); exact HO_2.out) hb); have n1_ := Aside0.mk (Kd.R_lower ho0 (below_size (by repeat (first | (with_reducible first | exact HB.out | apply below_alloc | apply pw_below_drewN | apply below_drew1) | exact HB.out)))); have n2_ := Aside0.mk (below_step (by repeat (first | (with_reducible first | exact HB.out | apply below_alloc | apply pw_below_drewN | apply below_drew1) | exact HB.out)) hb); clear HO_2; clear HB; have HO_2 := n0_; have HO235 := n1_; have HB := n2_; clear n0_ n1_ n2_; (try clear hb); (try clear hb2); (try clear hk); (try clear hi); (try clear ho0); obtain ⟨Ao27, co27, eo27⟩ := Kd.R_slice HO235.out; subst eo27) | ((with_reducible refine gate_callee (f := 26) rfl ?_); refine goesL_ (some 46) rfl rfl Tryd.func26 (by kernel_rfl) rfl #[.slice Ao27 t233.length co27] rfl (by (try simp only [List.map_toArray, List.map_cons, List.map_nil]); first | done | rfl | (simp only [List.length_drop, List.length_take]; rfl)) ?_; (with_reducible refine (book_root.calls k1 _ _ t233 t236 _ ?side1 ?side2 A19.out).mono ?_); (case side1 => repeat (first | exact (Kd.R_reads' HO235.out).2.2 | (with_reducible refine Kd.C_alloc ?_ _) | (with_reducible refine Kd.C_drewN ?_ _) | (with_reducible refine Kd.C_drew ?_))); (case side2 => exact (Kd.R_reads' HO235.out).2.1); rintro e w28 ⟨rfl, hb⟩; refine ⟨_, rfl, ?_⟩; have n0_ := Aside0.mk (Kd.R_below (by (with_reducible repeat (first | apply Kd.R_alloc | apply Kd.R_drewN | apply Kd.R_drew)); exact HO_2.out) hb); have n1_ := Aside0.mk (Kd.R_below (by (with_reducible repeat (first | apply Kd.R_alloc | apply Kd.R_drewN | apply Kd.R_drew)); exact HO235.out) hb); have n2_ := Aside0.mk (below_step (by repeat (first | (with_reducible first | exact HB.out | apply below_alloc | apply pw_below_drewN | apply below_drew1) | exact HB.out)) hb); clear HO_2; clear HO235; clear HB; have HO_2 := n0_; have HO235 := n1_; have HB := n2_; clear n0_ n1_ n2_; (try clear hb); (try clear hb2); (try clear hk); (try clear hi)))
            refine bodyPost_ret (results_list (rs := [.tmp 2, .tmp 3, .tmp 4, .tmp 5]) rfl (by simp) (.tmp (.tmp (.tmp (.tmp .nil))))) rfl ?_
            exact ⟨_, by first | rfl | (simp [errW_none, errW_some] <;> rfl) | (simp [*, errW_none, errW_some] <;> rfl), by first | exact Kd.R_nil _ _ _ _ _ | exact Kd.N_nil _ _ _ _ _ | exact Kd.V_nil _ _ _ _ _ | exact Kd.Q_nil _ _ _ _ _ | exact Kd.S_nil _ _ _ _ _, by repeat (first | (with_reducible first | exact HB.out | apply below_alloc | apply pw_below_drewN | apply below_drew1) | exact HB.out)⟩
  · replace c3 := Bool.eq_false_iff.mpr c3
    subst c3
    have H1 : (some (([] : List ByteArray), (⟨#[]⟩ : ByteArray), false, 2)) = some (r1, r2, r3, r4) := by rw [if_neg (show ¬ (false = true) by decide)] at H; exact H
    clear H
    have H := H1
    clear H1
    simp only [Option.some.injEq, Prod.mk.injEq] at H
    obtain ⟨rfl, rfl, rfl, rfl⟩ := H
    go_enter Tryd.func34, Tryd.ntmps34
    go_wp2_with (first | ((with_reducible refine gate_callee (f := 52) rfl ?_); refine goesL_ (some 13) rfl rfl Tryd.func52 (by kernel_rfl) rfl #[.string a0] rfl (by (try simp only [List.map_toArray, List.map_cons, List.map_nil]); first | done | rfl | (simp only [List.length_drop, List.length_take]; rfl)) ?_; (with_reducible refine (book_head.calls k a0 t223 t224 t225 false _ (Env.below hE (by repeat (first | (with_reducible first | exact HB.out | apply below_alloc | apply pw_below_drewN | apply below_drew1) | exact HB.out))) A2.out).mono ?_); rintro e w29 ⟨rfl, hb⟩; refine ⟨_, rfl, ?_⟩; have n0_ := Aside0.mk (below_step (by repeat (first | (with_reducible first | exact HB.out | apply below_alloc | apply pw_below_drewN | apply below_drew1) | exact HB.out)) hb); clear HB; have HB := n0_; clear n0_; (try clear hb); (try clear hb2); (try clear hk); (try clear hi)))
    refine bodyPost_ret (results_list (rs := [.tmp 2, .tmp 3, .tmp 4, .tmp 5]) rfl (by simp) (.tmp (.tmp (.tmp (.tmp .nil))))) rfl ?_
    exact ⟨_, by first | rfl | (simp [errW_none, errW_some] <;> rfl) | (simp [*, errW_none, errW_some] <;> rfl), by first | exact Kd.R_nil _ _ _ _ _ | exact Kd.N_nil _ _ _ _ _ | exact Kd.V_nil _ _ _ _ _ | exact Kd.Q_nil _ _ _ _ _ | exact Kd.S_nil _ _ _ _ _, by repeat (first | (with_reducible first | exact HB.out | apply below_alloc | apply pw_below_drewN | apply below_drew1) | exact HB.out)⟩

def book_Read.f (k : Nat) (a0 : ByteArray) : Option (List ByteArray × ByteArray × Int) := (book_read.f k a0).bind fun bt237 => (some (bt237.1, bt237.2.1, bt237.2.2.2))
set_option maxHeartbeats 8000000 in
set_option maxRecDepth 100000 in
theorem book_Read.calls (k : Nat) (a0 : ByteArray) (r1 : List ByteArray) (r2 : ByteArray) (r3 : Int) (w : World) (hE : Env w) (h : book_Read.f k a0 = some (r1, r2, r3)) :
    Calls Tryd.prog 18 #[.string a0] w fun e w' => ∃ v0_ : Value, e = .returned (.tuple #[v0_, .string r2, .int .i64 r3]) ∧ Kd.R Kd.string 9 w' w.heap.size (fun _ => True) v0_ r1 ∧ Below w.heap.size w w' := by
  have HB := Aside0.mk (Below.refl w.heap.size w)
  have H : ((book_read.f k a0).bind fun bt237 => (some (bt237.1, bt237.2.1, bt237.2.2.2))) = some (r1, r2, r3) := h
  clear h
  replace H := Option.bind_eq_some_iff.mp H
  obtain ⟨⟨t237, t238, t239, t240⟩, A20, H⟩ := H
  replace H : (some (t237, t238, t240)) = some (r1, r2, r3) := H
  have A2 := Aside0.mk A20
  clear A20
  simp only [Option.some.injEq, Prod.mk.injEq] at H
  obtain ⟨rfl, rfl, rfl⟩ := H
  go_enter Tryd.func18, Tryd.ntmps18
  go_wp2_with (first | ((with_reducible refine gate_callee (f := 34) rfl ?_); refine goesL_ (some 11) rfl rfl Tryd.func34 (by kernel_rfl) rfl #[.string a0] rfl (by (try simp only [List.map_toArray, List.map_cons, List.map_nil]); first | done | rfl | (simp only [List.length_drop, List.length_take]; rfl)) ?_; (with_reducible refine (book_read.calls k a0 t237 t238 t239 t240 _ (Env.below hE (by repeat (first | (with_reducible first | exact HB.out | apply below_alloc | apply pw_below_drewN | apply below_drew1) | exact HB.out))) A2.out).mono ?_); rintro e w3 ⟨v241, rfl, ho0, hb⟩; refine ⟨_, rfl, ?_⟩; have n0_ := Aside0.mk (Kd.R_lower ho0 (below_size (by repeat (first | (with_reducible first | exact HB.out | apply below_alloc | apply pw_below_drewN | apply below_drew1) | exact HB.out)))); have n1_ := Aside0.mk (below_step (by repeat (first | (with_reducible first | exact HB.out | apply below_alloc | apply pw_below_drewN | apply below_drew1) | exact HB.out)) hb); clear HB; have HO242 := n0_; have HB := n1_; clear n0_ n1_; (try clear hb); (try clear hb2); (try clear hk); (try clear hi); (try clear ho0)))
  go_ret3
  exact ⟨_, by first | rfl | (simp [errW_none, errW_some] <;> rfl) | (simp [*, errW_none, errW_some] <;> rfl), by (with_reducible repeat (first | apply Kd.R_alloc | apply Kd.R_drewN | apply Kd.R_drew)); exact HO242.out, by repeat (first | (with_reducible first | exact HB.out | apply below_alloc | apply pw_below_drewN | apply below_drew1) | exact HB.out)⟩

def wigeonref09_line.l0 : Nat → ByteArray → Int → Option (ByteArray × Bool)
  | 0, _, _ => none
  | k + 1, x0, x4 => if x4 < (x0.size : Int) then (if 0 ≤ x4 then (if (bt x0 x4) = 10 then (if 0 ≤ (wrap64 (x4 + 1)) then (if (wrap64 (x4 + 1)) ≤ (x0.size : Int) then (some (x0.extract 0 ((wrap64 (x4 + 1)) : Int).toNat, true)) else (none)) else (none)) else (wigeonref09_line.l0 k x0 (wrap64 (x4 + 1)))) else (none)) else (some (x0, false))
def wigeonref09_line.f (k : Nat) (a0 : ByteArray) : Option (ByteArray × Bool) := wigeonref09_line.l0 k a0 0
set_option maxHeartbeats 8000000 in
set_option maxRecDepth 100000 in
theorem wigeonref09_line.calls (k : Nat) (a0 : ByteArray) (r1 : ByteArray) (r2 : Bool) (w : World) (h : wigeonref09_line.f k a0 = some (r1, r2)) :
    Calls Tryd.prog 55 #[.string a0] w fun e w' => e = .returned (.tuple #[.string r1, .bool r2]) ∧ Drawn0 w w' := by
  have H : (wigeonref09_line.l0 k a0 0) = some (r1, r2) := h
  clear h
  have H' := Aside0.mk H
  clear H
  go_enter Tryd.func55, Tryd.ntmps55
  go_wp2
  go_loopg [4] k (fun kq v4 w' => ∃ (x4_1 : Int), v4 = .int .i64 x4_1 ∧ Aside0 (wigeonref09_line.l0 kq a0 x4_1 = some (r1, r2)) ∧ Aside0 (kq ≤ k) ∧ Drawn0 w w')
  case atStart => exact ⟨(0), (by first | rfl | (simp; done) | (simp [*]; done)), H', ⟨Nat.le_refl _⟩, by repeat (first | exact Drawn0.refl _ | apply Drawn0.step)⟩
  case round =>
    clear H'
    obtain ⟨x4_1, rfl, HA, HK1, ⟨m1, rfl⟩⟩ := hrel
    cases gk with
    | zero => exact absurd HA.out (by simp [wigeonref09_line.l0])
    | succ k1 =>
      have H := HA.out
      clear HA
      simp only [wigeonref09_line.l0] at H
      by_cases c2 : x4_1 < (a0.size : Int)
      · rw [if_pos c2] at H
        have c2b0 : decide (x4_1 < (a0.size : Int)) = true := decide_eq_true c2
        clear c2
        by_cases c3 : 0 ≤ x4_1
        · rw [if_pos c3] at H
          have c3b0 : decide (0 ≤ x4_1) = true := decide_eq_true c3
          clear c3
          by_cases c5 : (bt a0 x4_1) = 10
          · rw [if_pos c5] at H
            have c5b0 : ((bt a0 x4_1) == 10) = true := beq_iff_eq.mpr c5
            have c5b1 : ((bt a0 x4_1) != 10) = false := bne_eq_false_iff_eq.mpr c5
            clear c5
            obtain ⟨ji6, hji6⟩ : ∃ j_ : Int, (wrap64 (x4_1 + 1)) = j_ := ⟨_, rfl⟩
            replace H : (if 0 ≤ (ji6) then (if (ji6) ≤ (a0.size : Int) then (some (a0.extract 0 ((ji6) : Int).toNat, true)) else (none)) else (none)) = some (r1, r2) := by first | (rw [hji6] at H; exact H) | (simp only [hji6] at H ⊢; exact H)
            have hji6w : (IntKind.i64.wrap (x4_1 + 1)) = ji6 := (i64_w _).trans hji6
            by_cases c7 : 0 ≤ (ji6)
            · rw [if_pos c7] at H
              have c7b0 := eq_true c7
              have c7b1 : decide (0 ≤ (ji6)) = true := decide_eq_true c7
              clear c7
              by_cases c8 : (ji6) ≤ (a0.size : Int)
              · rw [if_pos c8] at H
                have c8b0 := eq_true c8
                have c8b1 : decide ((ji6) ≤ (a0.size : Int)) = true := decide_eq_true c8
                clear c8
                simp only [Option.some.injEq, Prod.mk.injEq] at H
                obtain ⟨rfl, rfl⟩ := H
                have p4 : 0 ≤ (x4_1 : Int) := of_decide_eq_true (by first | (with_reducible assumption) | assumption)
                have q4 : x4_1 < (a0.size : Int) := of_decide_eq_true (by first | (with_reducible assumption) | assumption)
                have hx4 := bt_at a0 x4_1
                replace p4 := eq_true p4
                replace q4 := eq_true q4
                go_wp2
                go_ret2
                exact ⟨by first | rfl | (simp; done) | (simp only [← hji6] <;> (first | rfl | simp)) | (simp [*]; done), by repeat (first | exact Drawn0.refl _ | apply Drawn0.step)⟩
              · rw [if_neg c8] at H
                exact absurd H (by simp)
            · rw [if_neg c7] at H
              exact absurd H (by simp)
          · rw [if_neg c5] at H
            have c5b0 : ((bt a0 x4_1) == 10) = false := beq_eq_false_iff_ne.mpr c5
            have c5b1 : ((bt a0 x4_1) != 10) = true := bne_iff_ne.mpr c5
            have H' := Aside0.mk H
            clear H
            have p4 : 0 ≤ (x4_1 : Int) := of_decide_eq_true (by first | (with_reducible assumption) | assumption)
            have q4 : x4_1 < (a0.size : Int) := of_decide_eq_true (by first | (with_reducible assumption) | assumption)
            have hx4 := bt_at a0 x4_1
            replace p4 := eq_true p4
            replace q4 := eq_true q4
            go_wp2
            go_roundg k1
            case measure => have := HK1.out; omega
            case rel => exact ⟨(wrap64 (x4_1 + 1)), (by first | rfl | (simp; done) | (simp [*]; done)), H', ⟨by have := HK1.out; omega⟩, by repeat (first | exact Drawn0.refl _ | apply Drawn0.step)⟩
        · rw [if_neg c3] at H
          exact absurd H (by simp)
      · rw [if_neg c2] at H
        have c2b0 : decide (x4_1 < (a0.size : Int)) = false := decide_eq_false c2
        clear c2
        simp only [Option.some.injEq, Prod.mk.injEq] at H
        obtain ⟨rfl, rfl⟩ := H
        go_wp2
        go_ret2
        exact ⟨by first | rfl | (simp; done) | (simp [*]; done) | (simp [IntKind.wrap_i64, wrap64]; done), by repeat (first | exact Drawn0.refl _ | apply Drawn0.step)⟩

def wigeonref01_Digit.f (a0 : Int) : Option (ByteArray) := if 0 ≤ a0 then (if a0 ≤ (wrap64 (a0 + 1)) then (if (wrap64 (a0 + 1)) ≤ 10 then (some ((⟨#[48, 49, 50, 51, 52, 53, 54, 55, 56, 57]⟩ : ByteArray).extract (a0 : Int).toNat ((wrap64 (a0 + 1)) : Int).toNat)) else (none)) else (none)) else (none)
set_option maxHeartbeats 8000000 in
set_option maxRecDepth 100000 in
theorem wigeonref01_Digit.calls (a0 : Int) (r : ByteArray) (w : World) (h : wigeonref01_Digit.f a0 = some r) :
    Calls Tryd.prog 76 #[.int .i64 a0] w fun e w' => e = .returned (.string r) ∧ Drawn0 w w' := by
  have H : (if 0 ≤ a0 then (if a0 ≤ (wrap64 (a0 + 1)) then (if (wrap64 (a0 + 1)) ≤ 10 then (some ((⟨#[48, 49, 50, 51, 52, 53, 54, 55, 56, 57]⟩ : ByteArray).extract (a0 : Int).toNat ((wrap64 (a0 + 1)) : Int).toNat)) else (none)) else (none)) else (none)) = some r := h
  clear h
  by_cases c2 : 0 ≤ a0
  · rw [if_pos c2] at H
    have c2b0 := eq_true c2
    have c2b1 : decide (0 ≤ a0) = true := decide_eq_true c2
    clear c2
    by_cases c3 : a0 ≤ (wrap64 (a0 + 1))
    · rw [if_pos c3] at H
      have c3b0 := eq_true c3
      have c3b1 : decide (a0 ≤ (wrap64 (a0 + 1))) = true := decide_eq_true c3
      by_cases c4 : (wrap64 (a0 + 1)) ≤ 10
      · rw [if_pos c4] at H
        have c4b0 := eq_true c4
        have c4b1 : decide ((wrap64 (a0 + 1)) ≤ 10) = true := decide_eq_true c4
        obtain rfl := Option.some.inj H
        go_enter Tryd.func76, Tryd.ntmps76
        go_wp2
        go_ret
        exact ⟨by first | rfl | (simp; done) | (simp [*]; done) | (simp [IntKind.wrap_i64, wrap64]; done), by repeat (first | exact Drawn0.refl _ | apply Drawn0.step)⟩
      · rw [if_neg c4] at H
        exact absurd H (by simp)
    · rw [if_neg c3] at H
      exact absurd H (by simp)
  · rw [if_neg c2] at H
    exact absurd H (by simp)

def wigeonref09_Number.f : Nat → Int → Option (ByteArray)
  | 0, _ => none
  | k + 1, a0 => if a0 < 10 then ((wigeonref01_Digit.f a0).bind fun t243 => (some t243)) else ((wigeonref09_Number.f k (wrap64 (Int.tdiv a0 10))).bind fun t244 => ((wigeonref01_Digit.f (Int.tmod a0 10)).bind fun t245 => (if t244.size + t245.size ≤ 9223372036854775807 then (some (t244 ++ t245)) else (none))))
set_option maxHeartbeats 8000000 in
set_option maxRecDepth 100000 in
theorem wigeonref09_Number.calls (k : Nat) : ∀ (a0 : Int) (r : ByteArray) (w : World) (h : wigeonref09_Number.f k a0 = some r),
    Calls Tryd.prog 61 #[.int .i64 a0] w fun e w' => e = .returned (.string r) ∧ Drawn0 w w' := by
  induction k using Nat.strongRecOn with
  | _ k ih =>
  intro a0 r w h
  cases k with
  | zero => exact absurd h (by simp [wigeonref09_Number.f])
  | succ k =>
  simp only [wigeonref09_Number.f] at h
  have H : (if a0 < 10 then ((wigeonref01_Digit.f a0).bind fun t243 => (some t243)) else ((wigeonref09_Number.f k (wrap64 (Int.tdiv a0 10))).bind fun t244 => ((wigeonref01_Digit.f (Int.tmod a0 10)).bind fun t245 => (if t244.size + t245.size ≤ 9223372036854775807 then (some (t244 ++ t245)) else (none))))) = some r := h
  clear h
  by_cases c2 : a0 < 10
  · rw [if_pos c2] at H
    have c2b0 : decide (a0 < 10) = true := decide_eq_true c2
    clear c2
    replace H := Option.bind_eq_some_iff.mp H
    obtain ⟨t243, A30, H⟩ := H
    replace H : (some t243) = some r := H
    have A3 := Aside0.mk A30
    clear A30
    obtain rfl := Option.some.inj H
    go_enter Tryd.func61, Tryd.ntmps61
    go_wp2_with (first | ((with_reducible refine gate_callee (f := 76) rfl ?_); refine goesL_ (some 6) rfl rfl Tryd.func76 (by kernel_rfl) rfl #[.int .i64 a0] rfl (by (try simp only [List.map_toArray, List.map_cons, List.map_nil]); first | done | rfl | (simp only [List.length_drop, List.length_take]; rfl)) ?_; (with_reducible refine (wigeonref01_Digit.calls a0 t243 _ A3.out).mono ?_); rintro e w' ⟨rfl, ⟨nd, rfl⟩⟩; refine ⟨_, rfl, ?_⟩))
    go_ret
    exact ⟨by first | rfl | (simp; done) | (simp [*]; done) | (simp [IntKind.wrap_i64, wrap64]; done), by repeat (first | exact Drawn0.refl _ | apply Drawn0.step)⟩
  · rw [if_neg c2] at H
    have c2b0 : decide (a0 < 10) = false := decide_eq_false c2
    clear c2
    replace H := Option.bind_eq_some_iff.mp H
    obtain ⟨t244, A40, H⟩ := H
    replace H : ((wigeonref01_Digit.f (Int.tmod a0 10)).bind fun t245 => (if t244.size + t245.size ≤ 9223372036854775807 then (some (t244 ++ t245)) else (none))) = some r := H
    have A4 := Aside0.mk A40
    clear A40
    replace H := Option.bind_eq_some_iff.mp H
    obtain ⟨t245, A50, H⟩ := H
    replace H : (if t244.size + t245.size ≤ 9223372036854775807 then (some (t244 ++ t245)) else (none)) = some r := H
    have A5 := Aside0.mk A50
    clear A50
    by_cases c6 : t244.size + t245.size ≤ 9223372036854775807
    · rw [if_pos c6] at H
      have c6b0 := eq_true c6
      have c6b1 : decide (t244.size + t245.size ≤ 9223372036854775807) = true := decide_eq_true c6
      try have c6b2 : (9223372036854775807 < t244.size + t245.size) = False := eq_false (Nat.not_lt.2 c6)
      obtain rfl := Option.some.inj H
      go_enter Tryd.func61, Tryd.ntmps61
      go_wp2_with (first | ((with_reducible refine gate_callee (f := 61) rfl ?_); refine goesL_ (some 9) rfl rfl Tryd.func61 (by kernel_rfl) rfl #[.int .i64 (wrap64 (Int.tdiv a0 10))] rfl (by (try simp only [List.map_toArray, List.map_cons, List.map_nil]); first | done | rfl | (simp only [List.length_drop, List.length_take]; rfl)) ?_; (with_reducible refine (ih k (by omega) (wrap64 (Int.tdiv a0 10)) t244 _ A4.out).mono ?_); rintro e w' ⟨rfl, ⟨nd, rfl⟩⟩; refine ⟨_, rfl, ?_⟩) | ((with_reducible refine gate_callee (f := 76) rfl ?_); refine goesL_ (some 12) rfl rfl Tryd.func76 (by kernel_rfl) rfl #[.int .i64 (Int.tmod a0 10)] rfl (by (try simp only [List.map_toArray, List.map_cons, List.map_nil]); first | done | rfl | (simp only [List.length_drop, List.length_take]; rfl)) ?_; (with_reducible refine (wigeonref01_Digit.calls (Int.tmod a0 10) t245 _ A5.out).mono ?_); rintro e w' ⟨rfl, ⟨nd, rfl⟩⟩; refine ⟨_, rfl, ?_⟩))
      go_ret
      exact ⟨by first | rfl | (simp; done) | (simp [*]; done) | (simp [IntKind.wrap_i64, wrap64]; done), by repeat (first | exact Drawn0.refl _ | apply Drawn0.step)⟩
    · rw [if_neg c6] at H
      exact absurd H (by simp)

def wigeonref09_first.f (k : Nat) (a0 : Int) (a1 : Int) : Option (ByteArray) := (wigeonref09_Number.f k a0).bind fun t246 => (if 6 + t246.size ≤ 9223372036854775807 then (if ((⟨#[112, 97, 103, 101, 115, 32]⟩ : ByteArray) ++ t246).size + 1 ≤ 9223372036854775807 then ((wigeonref09_Number.f k a1).bind fun t247 => (if (((⟨#[112, 97, 103, 101, 115, 32]⟩ : ByteArray) ++ t246) ++ (⟨#[32]⟩ : ByteArray)).size + t247.size ≤ 9223372036854775807 then (if ((((⟨#[112, 97, 103, 101, 115, 32]⟩ : ByteArray) ++ t246) ++ (⟨#[32]⟩ : ByteArray)) ++ t247).size + 1 ≤ 9223372036854775807 then (some (((((⟨#[112, 97, 103, 101, 115, 32]⟩ : ByteArray) ++ t246) ++ (⟨#[32]⟩ : ByteArray)) ++ t247) ++ (⟨#[10]⟩ : ByteArray))) else (none)) else (none))) else (none)) else (none))
set_option maxHeartbeats 8000000 in
set_option maxRecDepth 100000 in
theorem wigeonref09_first.calls (k : Nat) (a0 : Int) (a1 : Int) (r : ByteArray) (w : World) (h : wigeonref09_first.f k a0 a1 = some r) :
    Calls Tryd.prog 39 #[.int .i64 a0, .int .i64 a1] w fun e w' => e = .returned (.string r) ∧ Drawn0 w w' := by
  have H : ((wigeonref09_Number.f k a0).bind fun t246 => (if 6 + t246.size ≤ 9223372036854775807 then (if ((⟨#[112, 97, 103, 101, 115, 32]⟩ : ByteArray) ++ t246).size + 1 ≤ 9223372036854775807 then ((wigeonref09_Number.f k a1).bind fun t247 => (if (((⟨#[112, 97, 103, 101, 115, 32]⟩ : ByteArray) ++ t246) ++ (⟨#[32]⟩ : ByteArray)).size + t247.size ≤ 9223372036854775807 then (if ((((⟨#[112, 97, 103, 101, 115, 32]⟩ : ByteArray) ++ t246) ++ (⟨#[32]⟩ : ByteArray)) ++ t247).size + 1 ≤ 9223372036854775807 then (some (((((⟨#[112, 97, 103, 101, 115, 32]⟩ : ByteArray) ++ t246) ++ (⟨#[32]⟩ : ByteArray)) ++ t247) ++ (⟨#[10]⟩ : ByteArray))) else (none)) else (none))) else (none)) else (none))) = some r := h
  clear h
  replace H := Option.bind_eq_some_iff.mp H
  obtain ⟨t246, A30, H⟩ := H
  replace H : (if 6 + t246.size ≤ 9223372036854775807 then (if ((⟨#[112, 97, 103, 101, 115, 32]⟩ : ByteArray) ++ t246).size + 1 ≤ 9223372036854775807 then ((wigeonref09_Number.f k a1).bind fun t247 => (if (((⟨#[112, 97, 103, 101, 115, 32]⟩ : ByteArray) ++ t246) ++ (⟨#[32]⟩ : ByteArray)).size + t247.size ≤ 9223372036854775807 then (if ((((⟨#[112, 97, 103, 101, 115, 32]⟩ : ByteArray) ++ t246) ++ (⟨#[32]⟩ : ByteArray)) ++ t247).size + 1 ≤ 9223372036854775807 then (some (((((⟨#[112, 97, 103, 101, 115, 32]⟩ : ByteArray) ++ t246) ++ (⟨#[32]⟩ : ByteArray)) ++ t247) ++ (⟨#[10]⟩ : ByteArray))) else (none)) else (none))) else (none)) else (none)) = some r := H
  have A3 := Aside0.mk A30
  clear A30
  by_cases c4 : 6 + t246.size ≤ 9223372036854775807
  · rw [if_pos c4] at H
    have c4b0 := eq_true c4
    have c4b1 : decide (6 + t246.size ≤ 9223372036854775807) = true := decide_eq_true c4
    try have c4b2 : (9223372036854775807 < 6 + t246.size) = False := eq_false (Nat.not_lt.2 c4)
    by_cases c5 : ((⟨#[112, 97, 103, 101, 115, 32]⟩ : ByteArray) ++ t246).size + 1 ≤ 9223372036854775807
    · rw [if_pos c5] at H
      have c5b0 := eq_true c5
      have c5b1 : decide (((⟨#[112, 97, 103, 101, 115, 32]⟩ : ByteArray) ++ t246).size + 1 ≤ 9223372036854775807) = true := decide_eq_true c5
      try have c5b2 : (9223372036854775807 < ((⟨#[112, 97, 103, 101, 115, 32]⟩ : ByteArray) ++ t246).size + 1) = False := eq_false (Nat.not_lt.2 c5)
      try have c5b3 : (9223372036854775807 < 6 + t246.size + 1) = False := eq_false (by have z_ := c5; simp only [ByteArray.size_append, show (⟨#[112, 97, 103, 101, 115, 32]⟩ : ByteArray).size = 6 from rfl] at z_; omega)
      replace H := Option.bind_eq_some_iff.mp H
      obtain ⟨t247, A60, H⟩ := H
      replace H : (if (((⟨#[112, 97, 103, 101, 115, 32]⟩ : ByteArray) ++ t246) ++ (⟨#[32]⟩ : ByteArray)).size + t247.size ≤ 9223372036854775807 then (if ((((⟨#[112, 97, 103, 101, 115, 32]⟩ : ByteArray) ++ t246) ++ (⟨#[32]⟩ : ByteArray)) ++ t247).size + 1 ≤ 9223372036854775807 then (some (((((⟨#[112, 97, 103, 101, 115, 32]⟩ : ByteArray) ++ t246) ++ (⟨#[32]⟩ : ByteArray)) ++ t247) ++ (⟨#[10]⟩ : ByteArray))) else (none)) else (none)) = some r := H
      have A6 := Aside0.mk A60
      clear A60
      by_cases c7 : (((⟨#[112, 97, 103, 101, 115, 32]⟩ : ByteArray) ++ t246) ++ (⟨#[32]⟩ : ByteArray)).size + t247.size ≤ 9223372036854775807
      · rw [if_pos c7] at H
        have c7b0 := eq_true c7
        have c7b1 : decide ((((⟨#[112, 97, 103, 101, 115, 32]⟩ : ByteArray) ++ t246) ++ (⟨#[32]⟩ : ByteArray)).size + t247.size ≤ 9223372036854775807) = true := decide_eq_true c7
        try have c7b2 : (9223372036854775807 < (((⟨#[112, 97, 103, 101, 115, 32]⟩ : ByteArray) ++ t246) ++ (⟨#[32]⟩ : ByteArray)).size + t247.size) = False := eq_false (Nat.not_lt.2 c7)
        try have c7b3 : (9223372036854775807 < 6 + t246.size + 1 + t247.size) = False := eq_false (by have z_ := c7; simp only [ByteArray.size_append, show (⟨#[112, 97, 103, 101, 115, 32]⟩ : ByteArray).size = 6 from rfl, show (⟨#[32]⟩ : ByteArray).size = 1 from rfl] at z_; omega)
        by_cases c8 : ((((⟨#[112, 97, 103, 101, 115, 32]⟩ : ByteArray) ++ t246) ++ (⟨#[32]⟩ : ByteArray)) ++ t247).size + 1 ≤ 9223372036854775807
        · rw [if_pos c8] at H
          have c8b0 := eq_true c8
          have c8b1 : decide (((((⟨#[112, 97, 103, 101, 115, 32]⟩ : ByteArray) ++ t246) ++ (⟨#[32]⟩ : ByteArray)) ++ t247).size + 1 ≤ 9223372036854775807) = true := decide_eq_true c8
          try have c8b2 : (9223372036854775807 < ((((⟨#[112, 97, 103, 101, 115, 32]⟩ : ByteArray) ++ t246) ++ (⟨#[32]⟩ : ByteArray)) ++ t247).size + 1) = False := eq_false (Nat.not_lt.2 c8)
          try have c8b3 : (9223372036854775807 < 6 + t246.size + 1 + t247.size + 1) = False := eq_false (by have z_ := c8; simp only [ByteArray.size_append, show (⟨#[112, 97, 103, 101, 115, 32]⟩ : ByteArray).size = 6 from rfl, show (⟨#[32]⟩ : ByteArray).size = 1 from rfl] at z_; omega)
          obtain rfl := Option.some.inj H
          go_enter Tryd.func39, Tryd.ntmps39
          go_wp2_with (first | ((with_reducible refine gate_callee (f := 61) rfl ?_); refine goesL_ (some 6) rfl rfl Tryd.func61 (by kernel_rfl) rfl #[.int .i64 a0] rfl (by (try simp only [List.map_toArray, List.map_cons, List.map_nil]); first | done | rfl | (simp only [List.length_drop, List.length_take]; rfl)) ?_; (with_reducible refine (wigeonref09_Number.calls k a0 t246 _ A3.out).mono ?_); rintro e w' ⟨rfl, ⟨nd, rfl⟩⟩; refine ⟨_, rfl, ?_⟩) | ((with_reducible refine gate_callee (f := 61) rfl ?_); refine goesL_ (some 10) rfl rfl Tryd.func61 (by kernel_rfl) rfl #[.int .i64 a1] rfl (by (try simp only [List.map_toArray, List.map_cons, List.map_nil]); first | done | rfl | (simp only [List.length_drop, List.length_take]; rfl)) ?_; (with_reducible refine (wigeonref09_Number.calls k a1 t247 _ A6.out).mono ?_); rintro e w' ⟨rfl, ⟨nd, rfl⟩⟩; refine ⟨_, rfl, ?_⟩))
          go_ret
          exact ⟨by first | rfl | (simp; done) | (simp [*]; done) | (simp [IntKind.wrap_i64, wrap64]; done), by repeat (first | exact Drawn0.refl _ | apply Drawn0.step)⟩
        · rw [if_neg c8] at H
          exact absurd H (by simp)
      · rw [if_neg c7] at H
        exact absurd H (by simp)
    · rw [if_neg c5] at H
      exact absurd H (by simp)
  · rw [if_neg c4] at H
    exact absurd H (by simp)

def wigeonref09_number.l0 : Nat → ByteArray → Int → Int → Option (Int)
  | 0, _, _, _ => none
  | k + 1, x0, x3, x4 => if x4 < (x0.size : Int) then (if 0 ≤ x4 then (if (bt x0 x4) < 48 then (some (-1)) else (if (bt x0 x4) > 57 then (some (-1)) else (if x4 = 10 then (some (-1)) else (wigeonref09_number.l0 k x0 (wrap64 ((wrap64 (10 * x3)) + (((bt x0 x4) - 48) % 256))) (wrap64 (x4 + 1)))))) else (none)) else (if x0.toList = ([] : List UInt8) then (some (-1)) else ((wigeonref09_Number.f k x3).bind fun t248 => (if t248.toList = x0.toList then (some x3) else (some (-1)))))
def wigeonref09_number.f (k : Nat) (a0 : ByteArray) : Option (Int) := wigeonref09_number.l0 k a0 0 0
set_option maxHeartbeats 8000000 in
set_option maxRecDepth 100000 in
theorem wigeonref09_number.calls (k : Nat) (a0 : ByteArray) (r : Int) (w : World) (h : wigeonref09_number.f k a0 = some r) :
    Calls Tryd.prog 71 #[.string a0] w fun e w' => e = .returned (.int .i64 r) ∧ Drawn0 w w' := by
  have H : (wigeonref09_number.l0 k a0 0 0) = some r := h
  clear h
  have H' := Aside0.mk H
  clear H
  go_enter Tryd.func71, Tryd.ntmps71
  go_wp2
  go_loopg [3, 4] k (fun kq v3 v4 w' => ∃ (x3_1 : Int) (x4_1 : Int), v3 = .int .i64 x3_1 ∧ v4 = .int .i64 x4_1 ∧ Aside0 (wigeonref09_number.l0 kq a0 x3_1 x4_1 = some r) ∧ Aside0 (kq ≤ k) ∧ Drawn0 w w')
  case atStart => exact ⟨(0), (0), (by first | rfl | (simp; done) | (simp [*]; done)), (by first | rfl | (simp; done) | (simp [*]; done)), H', ⟨Nat.le_refl _⟩, by repeat (first | exact Drawn0.refl _ | apply Drawn0.step)⟩
  case round =>
    clear H'
    obtain ⟨x3_1, x4_1, rfl, rfl, HA, HK1, ⟨m1, rfl⟩⟩ := hrel
    cases gk with
    | zero => exact absurd HA.out (by simp [wigeonref09_number.l0])
    | succ k1 =>
      have H := HA.out
      clear HA
      simp only [wigeonref09_number.l0] at H
      by_cases c2 : x4_1 < (a0.size : Int)
      · rw [if_pos c2] at H
        have c2b0 : decide (x4_1 < (a0.size : Int)) = true := decide_eq_true c2
        clear c2
        by_cases c3 : 0 ≤ x4_1
        · rw [if_pos c3] at H
          have c3b0 : decide (0 ≤ x4_1) = true := decide_eq_true c3
          clear c3
          by_cases c5 : (bt a0 x4_1) < 48
          · rw [if_pos c5] at H
            have c5b0 : decide ((bt a0 x4_1) < 48) = true := decide_eq_true c5
            clear c5
            obtain rfl := Option.some.inj H
            have p4 : 0 ≤ (x4_1 : Int) := of_decide_eq_true (by first | (with_reducible assumption) | assumption)
            have q4 : x4_1 < (a0.size : Int) := of_decide_eq_true (by first | (with_reducible assumption) | assumption)
            have hx4 := bt_at a0 x4_1
            replace p4 := eq_true p4
            replace q4 := eq_true q4
            go_wp2
            go_ret
            exact ⟨by first | rfl | (simp; done) | (simp [*]; done) | (simp [IntKind.wrap_i64, wrap64]; done), by repeat (first | exact Drawn0.refl _ | apply Drawn0.step)⟩
          · rw [if_neg c5] at H
            have c5b0 : decide ((bt a0 x4_1) < 48) = false := decide_eq_false c5
            clear c5
            by_cases c7 : (bt a0 x4_1) > 57
            · rw [if_pos c7] at H
              have c7b0 : decide (57 < (bt a0 x4_1)) = true := decide_eq_true c7
              clear c7
              obtain rfl := Option.some.inj H
              have p4 : 0 ≤ (x4_1 : Int) := of_decide_eq_true (by first | (with_reducible assumption) | assumption)
              have q4 : x4_1 < (a0.size : Int) := of_decide_eq_true (by first | (with_reducible assumption) | assumption)
              have hx4 := bt_at a0 x4_1
              replace p4 := eq_true p4
              replace q4 := eq_true q4
              have p6 : 0 ≤ (x4_1 : Int) := of_decide_eq_true (by first | (with_reducible assumption) | assumption)
              have q6 : x4_1 < (a0.size : Int) := of_decide_eq_true (by first | (with_reducible assumption) | assumption)
              have hx6 := bt_at a0 x4_1
              replace p6 := eq_true p6
              replace q6 := eq_true q6
              go_wp2
              go_ret
              exact ⟨by first | rfl | (simp; done) | (simp [*]; done) | (simp [IntKind.wrap_i64, wrap64]; done), by repeat (first | exact Drawn0.refl _ | apply Drawn0.step)⟩
            · rw [if_neg c7] at H
              have c7b0 : decide (57 < (bt a0 x4_1)) = false := decide_eq_false c7
              clear c7
              by_cases c8 : x4_1 = 10
              · rw [if_pos c8] at H
                have c8b0 : (x4_1 == 10) = true := beq_iff_eq.mpr c8
                have c8b1 : (x4_1 != 10) = false := bne_eq_false_iff_eq.mpr c8
                clear c8
                obtain rfl := Option.some.inj H
                have p4 : 0 ≤ (x4_1 : Int) := of_decide_eq_true (by first | (with_reducible assumption) | assumption)
                have q4 : x4_1 < (a0.size : Int) := of_decide_eq_true (by first | (with_reducible assumption) | assumption)
                have hx4 := bt_at a0 x4_1
                replace p4 := eq_true p4
                replace q4 := eq_true q4
                have p6 : 0 ≤ (x4_1 : Int) := of_decide_eq_true (by first | (with_reducible assumption) | assumption)
                have q6 : x4_1 < (a0.size : Int) := of_decide_eq_true (by first | (with_reducible assumption) | assumption)
                have hx6 := bt_at a0 x4_1
                replace p6 := eq_true p6
                replace q6 := eq_true q6
                go_wp2
                go_ret
                exact ⟨by first | rfl | (simp; done) | (simp [*]; done) | (simp [IntKind.wrap_i64, wrap64]; done), by repeat (first | exact Drawn0.refl _ | apply Drawn0.step)⟩
              · rw [if_neg c8] at H
                have c8b0 : (x4_1 == 10) = false := beq_eq_false_iff_ne.mpr c8
                have c8b1 : (x4_1 != 10) = true := bne_iff_ne.mpr c8
                have H' := Aside0.mk H
                clear H
                have p4 : 0 ≤ (x4_1 : Int) := of_decide_eq_true (by first | (with_reducible assumption) | assumption)
                have q4 : x4_1 < (a0.size : Int) := of_decide_eq_true (by first | (with_reducible assumption) | assumption)
                have hx4 := bt_at a0 x4_1
                replace p4 := eq_true p4
                replace q4 := eq_true q4
                have p6 : 0 ≤ (x4_1 : Int) := of_decide_eq_true (by first | (with_reducible assumption) | assumption)
                have q6 : x4_1 < (a0.size : Int) := of_decide_eq_true (by first | (with_reducible assumption) | assumption)
                have hx6 := bt_at a0 x4_1
                replace p6 := eq_true p6
                replace q6 := eq_true q6
                have p9 : 0 ≤ (x4_1 : Int) := of_decide_eq_true (by first | (with_reducible assumption) | assumption)
                have q9 : x4_1 < (a0.size : Int) := of_decide_eq_true (by first | (with_reducible assumption) | assumption)
                have hx9 := bt_at a0 x4_1
                replace p9 := eq_true p9
                replace q9 := eq_true q9
                go_wp2
                go_roundg k1
                case measure => have := HK1.out; omega
                case rel => exact ⟨(wrap64 ((wrap64 (10 * x3_1)) + (((bt a0 x4_1) - 48) % 256))), (wrap64 (x4_1 + 1)), (by first | rfl | (simp; done) | (simp [*]; done)), (by first | rfl | (simp; done) | (simp [*]; done)), H', ⟨by have := HK1.out; omega⟩, by repeat (first | exact Drawn0.refl _ | apply Drawn0.step)⟩
        · rw [if_neg c3] at H
          exact absurd H (by simp)
      · rw [if_neg c2] at H
        have c2b0 : decide (x4_1 < (a0.size : Int)) = false := decide_eq_false c2
        clear c2
        by_cases c10 : a0.toList = ([] : List UInt8)
        · rw [if_pos c10] at H
          have c10b0 : (a0.toList == ([] : List UInt8)) = true := beq_iff_eq.mpr c10
          have c10b1 : (a0.toList != ([] : List UInt8)) = false := bne_eq_false_iff_eq.mpr c10
          clear c10
          obtain rfl := Option.some.inj H
          go_wp2
          go_ret
          exact ⟨by first | rfl | (simp; done) | (simp [*]; done) | (simp [IntKind.wrap_i64, wrap64]; done), by repeat (first | exact Drawn0.refl _ | apply Drawn0.step)⟩
        · rw [if_neg c10] at H
          have c10b0 : (a0.toList == ([] : List UInt8)) = false := beq_eq_false_iff_ne.mpr c10
          have c10b1 : (a0.toList != ([] : List UInt8)) = true := bne_iff_ne.mpr c10
          replace H := Option.bind_eq_some_iff.mp H
          obtain ⟨t248, A110, H⟩ := H
          replace H : (if t248.toList = a0.toList then (some x3_1) else (some (-1))) = some r := H
          have A11 := Aside0.mk A110
          clear A110
          by_cases c12 : t248.toList = a0.toList
          · rw [if_pos c12] at H
            have c12b0 : (t248.toList == a0.toList) = true := beq_iff_eq.mpr c12
            have c12b1 : (t248.toList != a0.toList) = false := bne_eq_false_iff_eq.mpr c12
            clear c12
            obtain rfl := Option.some.inj H
            go_wp2_with (first | (go_at_call 61; (with_reducible refine (wigeonref09_Number.calls k1 x3_1 t248 _ A11.out).mono ?_); rintro e w' ⟨rfl, ⟨nd, rfl⟩⟩))
            go_ret
            exact ⟨by first | rfl | (simp; done) | (simp [*]; done) | (simp [IntKind.wrap_i64, wrap64]; done), by repeat (first | exact Drawn0.refl _ | apply Drawn0.step)⟩
          · rw [if_neg c12] at H
            have c12b0 : (t248.toList == a0.toList) = false := beq_eq_false_iff_ne.mpr c12
            have c12b1 : (t248.toList != a0.toList) = true := bne_iff_ne.mpr c12
            obtain rfl := Option.some.inj H
            go_wp2_with (first | (go_at_call 61; (with_reducible refine (wigeonref09_Number.calls k1 x3_1 t248 _ A11.out).mono ?_); rintro e w' ⟨rfl, ⟨nd, rfl⟩⟩))
            go_ret
            exact ⟨by first | rfl | (simp; done) | (simp [*]; done) | (simp [IntKind.wrap_i64, wrap64]; done), by repeat (first | exact Drawn0.refl _ | apply Drawn0.step)⟩

def wigeonref09_isSum.f (a0 : Int) : Option (Bool) := if a0 ≥ 0 then (some (decide (a0 < 2147483647))) else (some false)
set_option maxHeartbeats 8000000 in
set_option maxRecDepth 100000 in
theorem wigeonref09_isSum.calls (a0 : Int) (r : Bool) (w : World) (h : wigeonref09_isSum.f a0 = some r) :
    Calls Tryd.prog 72 #[.int .i64 a0] w fun e w' => e = .returned (.bool r) ∧ Drawn0 w w' := by
  have H : (if a0 ≥ 0 then (some (decide (a0 < 2147483647))) else (some false)) = some r := h
  clear h
  by_cases c2 : a0 ≥ 0
  · rw [if_pos c2] at H
    have c2b0 : decide (0 ≤ a0) = true := decide_eq_true c2
    clear c2
    obtain rfl := Option.some.inj H
    go_enter Tryd.func72, Tryd.ntmps72
    go_wp2
    go_ret
    exact ⟨by first | rfl | (simp; done) | (simp [*]; done) | (simp [IntKind.wrap_i64, wrap64]; done), by repeat (first | exact Drawn0.refl _ | apply Drawn0.step)⟩
  · rw [if_neg c2] at H
    have c2b0 : decide (0 ≤ a0) = false := decide_eq_false c2
    clear c2
    obtain rfl := Option.some.inj H
    go_enter Tryd.func72, Tryd.ntmps72
    go_wp2
    go_ret
    exact ⟨by first | rfl | (simp; done) | (simp [*]; done) | (simp [IntKind.wrap_i64, wrap64]; done), by repeat (first | exact Drawn0.refl _ | apply Drawn0.step)⟩

end Go.Proofs.YtfccgfjiplnmfaaDoor.BA

