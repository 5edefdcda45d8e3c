/- Of the text BAx34, what the row of BookWrites reaches. -/
import Derived.Test.YtfccgfjiplnmfaaDoorZBookWritesBAx0
import Derived.Test.YtfccgfjiplnmfaaDoorZBookWritesBAx12
import Derived.Test.YtfccgfjiplnmfaaDoorZBookWritesBAx26
import Derived.Test.YtfccgfjiplnmfaaDoorZBookWritesBAx29
import Derived.Test.YtfccgfjiplnmfaaDoorZBookWritesBAx31
import Derived.Test.YtfccgfjiplnmfaaDoorZBookWritesBAx33
namespace Go.Proofs.YtfccgfjiplnmfaaDoor.BA
open Go.RowKit Go.Proofs.YtfccgfjiplnmfaaDoorW.PrintWords Go.Proofs.YtfccgfjiplnmfaaDoorW.PrintLast Go.Proofs.YtfccgfjiplnmfaaDoorW.PrintMore
attribute [local go_sem] max2_int min2_int max_two min_two max_three min_three max_four min_four   -- for this text's walks alone
set_option linter.unusedVariables false
set_option linter.unusedSimpArgs false

mutual
def wigeonlaw09_BookWrites.j0 : Nat → List ByteArray → Int → ByteArray → Int → Bool → Option (Bool)
  | 0, _, _, _, _, _ => none
  | k + 1, x0, x1, x5, x6, x39 => if x39 = true then (some false) else (if x6 = 0 then ((book_Read.f k x5).bind fun bt386 => (if bt386.2.2 = 0 then (if bt386.2.1.toList = ([] : List UInt8) then ((wigeonref01_SameTexts.f k bt386.1 x0).bind fun t391 => (wigeonlaw09_BookWrites.j1 k x0 x1 x5 (!t391))) else (wigeonlaw09_BookWrites.j1 k x0 x1 x5 true)) else (wigeonlaw09_BookWrites.j1 k x0 x1 x5 true))) else ((wigeonlaw09_known.f k).bind fun t385 => (some t385)))
def wigeonlaw09_BookWrites.j1 : Nat → List ByteArray → Int → ByteArray → Bool → Option (Bool)
  | 0, _, _, _, _ => none
  | k + 1, x0, x1, x5, x60 => if x60 = true then (some false) else (wigeonlaw09_BookWrites.l0 k x0 x1 x5 0)
def wigeonlaw09_BookWrites.l0 : Nat → List ByteArray → Int → ByteArray → Int → Option (Bool)
  | 0, _, _, _, _ => none
  | k + 1, x0, x1, x5, x12 => if 0 ≤ x12 then (if x12 < (x5.size : Int) then (if (bt x5 x12) = 10 then (if (IntKind.u64.wrap (wrap64 ((x5.size : Int) - x12))) = 0 then (none) else (if 0 ≤ (wrap64 ((wrap64 (x12 + 1)) + (wrap64 (Int.tmod (IntKind.u64.wrap (x1)) (IntKind.u64.wrap (wrap64 ((x5.size : Int) - x12))))))) then (if (wrap64 ((wrap64 (x12 + 1)) + (wrap64 (Int.tmod (IntKind.u64.wrap (x1)) (IntKind.u64.wrap (wrap64 ((x5.size : Int) - x12))))))) ≤ (x5.size : Int) then ((book_Read.f k (x5.extract 0 ((wrap64 ((wrap64 (x12 + 1)) + (wrap64 (Int.tmod (IntKind.u64.wrap (x1)) (IntKind.u64.wrap (wrap64 ((x5.size : Int) - x12))))))) : Int).toNat)).bind fun bt392 => (if bt392.2.2 = 0 then (if (bt392.1.length : Int) > (x0.length : Int) then (wigeonlaw09_BookWrites.j3 k x12 (wrap64 ((wrap64 (x12 + 1)) + (wrap64 (Int.tmod (IntKind.u64.wrap (x1)) (IntKind.u64.wrap (wrap64 ((x5.size : Int) - x12))))))) bt392.1 bt392.2.1 true) else (if 0 ≤ (bt392.1.length : Int) then (if (bt392.1.length : Int) ≤ (x0.length : Int) then ((wigeonref01_SameTexts.f k bt392.1 (x0.take ((bt392.1.length : Int) : Int).toNat)).bind fun t398 => (wigeonlaw09_BookWrites.j3 k x12 (wrap64 ((wrap64 (x12 + 1)) + (wrap64 (Int.tmod (IntKind.u64.wrap (x1)) (IntKind.u64.wrap (wrap64 ((x5.size : Int) - x12))))))) bt392.1 bt392.2.1 (!t398))) else (none)) else (none))) else (wigeonlaw09_BookWrites.j3 k x12 (wrap64 ((wrap64 (x12 + 1)) + (wrap64 (Int.tmod (IntKind.u64.wrap (x1)) (IntKind.u64.wrap (wrap64 ((x5.size : Int) - x12))))))) bt392.1 bt392.2.1 true))) else (none)) else (none))) else (wigeonlaw09_BookWrites.l0 k x0 x1 x5 (wrap64 (x12 + 1)))) else (none)) else (none)
def wigeonlaw09_BookWrites.j3 : Nat → Int → Int → List ByteArray → ByteArray → Bool → Option (Bool)
  | 0, _, _, _, _, _ => none
  | k + 1, x12, x13, x14, x15, x106 => if x106 = true then (some false) else (wigeonlaw09_BookWrites.l1 k x13 x14 (wrap64 ((wrap64 (x12 + 1)) + (x15.size : Int))) 0)
def wigeonlaw09_BookWrites.l1 : Nat → Int → List ByteArray → Int → Int → Option (Bool)
  | 0, _, _, _, _ => none
  | k + 1, x13, x14, x17, x18 => if x18 < (x14.length : Int) then (if 0 ≤ x18 then (wigeonlaw09_BookWrites.l1 k x13 x14 (wrap64 (x17 + (wrap64 (((rdOf ByteArray.empty x14 x18).size : Int) + 1)))) (wrap64 (x18 + 1))) else (none)) else (if x17 = x13 then ((wigeonlaw09_known.f k).bind fun t400 => (some t400)) else (some false))
end
def wigeonlaw09_BookWrites.f (k : Nat) (l0 : List ByteArray) (a1 : Int) : Option (Bool) := (wigeonlaw09_Long.f k l0).bind fun t379 => (if t379 = true then ((wigeonlaw09_known.f k).bind fun t380 => (some t380)) else ((book_Write.f k l0).bind fun bt381 => ((wigeonref09_Write.f k l0).bind fun bt383 => (if bt381.1.toList = bt383.1.toList then (wigeonlaw09_BookWrites.j0 k l0 a1 bt381.1 bt381.2 (bt381.2 != bt383.2)) else (wigeonlaw09_BookWrites.j0 k l0 a1 bt381.1 bt381.2 true)))))
set_option maxHeartbeats 8000000 in
set_option maxRecDepth 100000 in
theorem wigeonlaw09_BookWrites.calls (k : Nat) (A0 : Option Addr) (c0 : Nat) (l0 : List ByteArray) (a1 : Int) (r : Bool) (w : World) (hE : Env w) (hr0 : Kd.C Kd.string w A0 l0.length l0) (hc0 : l0.length ≤ c0) (h : wigeonlaw09_BookWrites.f k l0 a1 = some r) :
    Calls Tryd.prog 6 #[.slice A0 l0.length c0, .int .i64 a1] w fun e w' => e = .returned (.bool r) ∧ Below w.heap.size w w' := by
  have HR0 := Aside0.mk hr0
  have HC0 := Aside0.mk hc0
  clear hr0 hc0
  have HB := Aside0.mk (Below.refl w.heap.size w)
  have H : ((wigeonlaw09_Long.f k l0).bind fun t379 => (if t379 = true then ((wigeonlaw09_known.f k).bind fun t380 => (some t380)) else ((book_Write.f k l0).bind fun bt381 => ((wigeonref09_Write.f k l0).bind fun bt383 => (if bt381.1.toList = bt383.1.toList then (wigeonlaw09_BookWrites.j0 k l0 a1 bt381.1 bt381.2 (bt381.2 != bt383.2)) else (wigeonlaw09_BookWrites.j0 k l0 a1 bt381.1 bt381.2 true)))))) = some r := h
  clear h
  replace H := Option.bind_eq_some_iff.mp H
  obtain ⟨t379, A30, H⟩ := H
  replace H : (if t379 = true then ((wigeonlaw09_known.f k).bind fun t380 => (some t380)) else ((book_Write.f k l0).bind fun bt381 => ((wigeonref09_Write.f k l0).bind fun bt383 => (if bt381.1.toList = bt383.1.toList then (wigeonlaw09_BookWrites.j0 k l0 a1 bt381.1 bt381.2 (bt381.2 != bt383.2)) else (wigeonlaw09_BookWrites.j0 k l0 a1 bt381.1 bt381.2 true))))) = some r := H
  have A3 := Aside0.mk A30
  clear A30
  by_cases c4 : t379 = true
  · subst c4
    have H1 : ((wigeonlaw09_known.f k).bind fun t380 => (some t380)) = some r := by rw [if_pos rfl] at H; exact H
    clear H
    have H := H1
    clear H1
    replace H := Option.bind_eq_some_iff.mp H
    obtain ⟨t380, A50, H⟩ := H
    replace H : (some t380) = some r := H
    have A5 := Aside0.mk A50
    clear A50
    obtain rfl := Option.some.inj H
    go_enter Tryd.func6, Tryd.ntmps6
    go_wp2_with (first | ((with_reducible refine gate_callee (f := 8) rfl ?_); refine goesL_ (some 20) rfl rfl Tryd.func8 (by kernel_rfl) rfl #[.slice A0 l0.length c0] rfl (by (try simp only [List.map_toArray, List.map_cons, List.map_nil]); first | done | rfl | (simp only [List.length_drop, List.length_take]; rfl)) ?_; (with_reducible refine (wigeonlaw09_Long.calls k _ _ l0 true _ ?side1 ?side2 A3.out).mono ?_); (case side1 => repeat (first | exact HR0.out | (with_reducible refine Kd.C_alloc ?_ _) | (with_reducible refine Kd.C_drewN ?_ _) | (with_reducible refine Kd.C_drew ?_))); (case side2 => exact HC0.out); rintro e w' ⟨rfl, ⟨nd, rfl⟩⟩; refine ⟨_, rfl, ?_⟩) | ((with_reducible refine gate_callee (f := 17) rfl ?_); refine goesL_ (some 21) rfl rfl Tryd.func17 (by kernel_rfl) rfl #[] rfl (by (try simp only [List.map_toArray, List.map_cons, List.map_nil]); first | done | rfl | (simp only [List.length_drop, List.length_take]; rfl)) ?_; (with_reducible refine (wigeonlaw09_known.calls k  t380 _ A5.out).mono ?_); rintro e w6 ⟨rfl, hb⟩; refine ⟨_, rfl, ?_⟩; have n0_ := Aside0.mk (below_step (by repeat (first | (with_reducible first | exact HB.out | apply below_alloc | apply pw_below_drewN | apply below_drew1) | exact HB.out)) hb); clear HB; have HB := n0_; clear n0_; (try clear hb); (try clear hb2); (try clear hk); (try clear hi)))
    go_ret
    exact ⟨by first | rfl | (simp [errW_none, errW_some] <;> rfl) | (simp [*, errW_none, errW_some] <;> rfl), by repeat (first | (with_reducible first | exact HB.out | apply below_alloc | apply pw_below_drewN | apply below_drew1) | exact HB.out)⟩
  · replace c4 := Bool.eq_false_iff.mpr c4
    subst c4
    have H1 : ((book_Write.f k l0).bind fun bt381 => ((wigeonref09_Write.f k l0).bind fun bt383 => (if bt381.1.toList = bt383.1.toList then (wigeonlaw09_BookWrites.j0 k l0 a1 bt381.1 bt381.2 (bt381.2 != bt383.2)) else (wigeonlaw09_BookWrites.j0 k l0 a1 bt381.1 bt381.2 true)))) = some r := by rw [if_neg (show ¬ (false = true) by decide)] at H; exact H
    clear H
    have H := H1
    clear H1
    replace H := Option.bind_eq_some_iff.mp H
    obtain ⟨⟨t381, t382⟩, A70, H⟩ := H
    replace H : ((wigeonref09_Write.f k l0).bind fun bt383 => (if t381.toList = bt383.1.toList then (wigeonlaw09_BookWrites.j0 k l0 a1 t381 t382 (t382 != bt383.2)) else (wigeonlaw09_BookWrites.j0 k l0 a1 t381 t382 true))) = some r := H
    have A7 := Aside0.mk A70
    clear A70
    replace H := Option.bind_eq_some_iff.mp H
    obtain ⟨⟨t383, t384⟩, A80, H⟩ := H
    replace H : (if t381.toList = t383.toList then (wigeonlaw09_BookWrites.j0 k l0 a1 t381 t382 (t382 != t384)) else (wigeonlaw09_BookWrites.j0 k l0 a1 t381 t382 true)) = some r := H
    have A8 := Aside0.mk A80
    clear A80
    have HC9 := Aside0.mk H
    clear H
    go_enter Tryd.func6, Tryd.ntmps6
    go_upto_region 5 with (first | ((with_reducible refine gate_callee (f := 8) rfl ?_); refine goesL_ (some 20) rfl rfl Tryd.func8 (by kernel_rfl) rfl #[.slice A0 l0.length c0] rfl (by (try simp only [List.map_toArray, List.map_cons, List.map_nil]); first | done | rfl | (simp only [List.length_drop, List.length_take]; rfl)) ?_; (with_reducible refine (wigeonlaw09_Long.calls k _ _ l0 false _ ?side1 ?side2 A3.out).mono ?_); (case side1 => repeat (first | exact HR0.out | (with_reducible refine Kd.C_alloc ?_ _) | (with_reducible refine Kd.C_drewN ?_ _) | (with_reducible refine Kd.C_drew ?_))); (case side2 => exact HC0.out); rintro e w' ⟨rfl, ⟨nd, rfl⟩⟩; refine ⟨_, rfl, ?_⟩) | ((with_reducible refine gate_callee (f := 14) rfl ?_); refine goesL_ (some 24) rfl rfl Tryd.func14 (by kernel_rfl) rfl #[.slice A0 l0.length c0] rfl (by (try simp only [List.map_toArray, List.map_cons, List.map_nil]); first | done | rfl | (simp only [List.length_drop, List.length_take]; rfl)) ?_; (with_reducible refine (book_Write.calls k _ _ l0 t381 t382 _ (Env.below hE (by repeat (first | (with_reducible first | exact HB.out | apply below_alloc | apply pw_below_drewN | apply below_drew1) | exact HB.out))) ?side1 ?side2 A7.out).mono ?_); (case side1 => repeat (first | exact HR0.out | (with_reducible refine Kd.C_alloc ?_ _) | (with_reducible refine Kd.C_drewN ?_ _) | (with_reducible refine Kd.C_drew ?_))); (case side2 => exact HC0.out); rintro e w10 ⟨rfl, hb⟩; refine ⟨_, rfl, ?_⟩; have n0_ := Aside0.mk (below_step (by repeat (first | (with_reducible first | exact HB.out | apply below_alloc | apply pw_below_drewN | apply below_drew1) | exact HB.out)) hb); clear HB; have HB := n0_; clear n0_; (try clear hb); (try clear hb2); (try clear hk); (try clear hi)) | ((with_reducible refine gate_callee (f := 22) rfl ?_); refine goesL_ (some 29) rfl rfl Tryd.func22 (by kernel_rfl) rfl #[.slice A0 l0.length c0] rfl (by (try simp only [List.map_toArray, List.map_cons, List.map_nil]); first | done | rfl | (simp only [List.length_drop, List.length_take]; rfl)) ?_; (with_reducible refine (wigeonref09_Write.calls k _ _ l0 t383 t384 _ ?side1 ?side2 A8.out).mono ?_); (case side1 => repeat (first | exact (Kd.C_below HR0.out HB.out) | (with_reducible refine Kd.C_alloc ?_ _) | (with_reducible refine Kd.C_drewN ?_ _) | (with_reducible refine Kd.C_drew ?_))); (case side2 => exact HC0.out); rintro e w11 ⟨rfl, hb⟩; refine ⟨_, rfl, ?_⟩; have n0_ := Aside0.mk (below_step (by repeat (first | (with_reducible first | exact HB.out | apply below_alloc | apply pw_below_drewN | apply below_drew1) | exact HB.out)) hb); clear HB; have HB := n0_; clear n0_; (try clear hb); (try clear hb2); (try clear hk); (try clear hi)))
    (try simp only [Act.put, List.setIfInBounds_toArray, List.set_cons_zero, List.set_cons_succ])
    go_cut [39] (fun v39 wc => ∃ (kq : Nat) (x39_8 : Bool), v39 = .bool x39_8 ∧ Aside0 (wigeonlaw09_BookWrites.j0 kq l0 a1 t381 t382 x39_8 = some r) ∧ Aside0 (kq ≤ k) ∧ Aside0 (Below w.heap.size w wc))
    case first =>
      have H := HC9.out
      clear HC9
      by_cases c12 : t381.toList = t383.toList
      · rw [if_pos c12] at H
        have c12b0 : (t381.toList == t383.toList) = true := beq_iff_eq.mpr c12
        have c12b1 : (t381.toList != t383.toList) = false := bne_eq_false_iff_eq.mpr c12
        clear c12
        (first | rw [c12b0] | (simp only [i64_w, i32_w]; rw [c12b0]) | skip)
        have H' := Aside0.mk H
        clear H
        go_wp2
        go_meet
        case rel => exact ⟨_, ((t382 != t384)), (by first | rfl | (simp; done) | (simp [*]; done)), H', ⟨by first | omega | exact Nat.le_refl _⟩, ⟨by repeat (first | (with_reducible first | exact HB.out | apply below_alloc | apply pw_below_drewN | apply below_drew1) | exact HB.out)⟩⟩
      · rw [if_neg c12] at H
        have c12b0 : (t381.toList == t383.toList) = false := beq_eq_false_iff_ne.mpr c12
        have c12b1 : (t381.toList != t383.toList) = true := bne_iff_ne.mpr c12
        (first | rw [c12b0] | (simp only [i64_w, i32_w]; rw [c12b0]) | skip)
        have H' := Aside0.mk H
        clear H
        go_wp2
        go_meet
        case rel => exact ⟨_, (true), (by first | rfl | (simp; done) | (simp [*]; done)), H', ⟨by first | omega | exact Nat.le_refl _⟩, ⟨by repeat (first | (with_reducible first | exact HB.out | apply below_alloc | apply pw_below_drewN | apply below_drew1) | exact HB.out)⟩⟩
    case rest =>
      clear HC9
      try clear c1
      try clear c2
      try clear p2
      try clear c4
      try clear c6
      try clear c8
      try clear c12
      try clear c12b0
      try clear c12b1
      obtain ⟨kq, x39_8, rfl, HA, HJ8, HB⟩ := hcut
      cases kq with
      | zero => exact absurd HA.out (by simp [wigeonlaw09_BookWrites.j0])
      | succ kj8 =>
        have H := HA.out
        clear HA
        simp only [wigeonlaw09_BookWrites.j0] at H
        by_cases c13 : x39_8 = true
        · subst c13
          have H1 : (some false) = some r := by rw [if_pos rfl] at H; exact H
          clear H
          have H := H1
          clear H1
          obtain rfl := Option.some.inj H
          go_wp2
          go_ret
          exact ⟨by first | rfl | (simp [errW_none, errW_some] <;> rfl) | (simp [*, errW_none, errW_some] <;> rfl), by repeat (first | (with_reducible first | exact HB.out | apply below_alloc | apply pw_below_drewN | apply below_drew1) | exact HB.out)⟩
        · replace c13 := Bool.eq_false_iff.mpr c13
          subst c13
          have H1 : (if t382 = 0 then ((book_Read.f kj8 t381).bind fun bt386 => (if bt386.2.2 = 0 then (if bt386.2.1.toList = ([] : List UInt8) then ((wigeonref01_SameTexts.f kj8 bt386.1 l0).bind fun t391 => (wigeonlaw09_BookWrites.j1 kj8 l0 a1 t381 (!t391))) else (wigeonlaw09_BookWrites.j1 kj8 l0 a1 t381 true)) else (wigeonlaw09_BookWrites.j1 kj8 l0 a1 t381 true))) else ((wigeonlaw09_known.f kj8).bind fun t385 => (some t385))) = some r := by rw [if_neg (show ¬ (false = true) by decide)] at H; exact H
          clear H
          have H := H1
          clear H1
          by_cases c14 : t382 = 0
          · rw [if_pos c14] at H
            have c14b0 : (t382 == 0) = true := beq_iff_eq.mpr c14
            have c14b1 : (t382 != 0) = false := bne_eq_false_iff_eq.mpr c14
            clear c14
            replace H := Option.bind_eq_some_iff.mp H
            obtain ⟨⟨t386, t387, t388⟩, A150, H⟩ := H
            replace H : (if t388 = 0 then (if t387.toList = ([] : List UInt8) then ((wigeonref01_SameTexts.f kj8 t386 l0).bind fun t391 => (wigeonlaw09_BookWrites.j1 kj8 l0 a1 t381 (!t391))) else (wigeonlaw09_BookWrites.j1 kj8 l0 a1 t381 true)) else (wigeonlaw09_BookWrites.j1 kj8 l0 a1 t381 true)) = some r := H
            have A15 := Aside0.mk A150
            clear A150
            have HC16 := Aside0.mk H
            clear H
            go_upto_region 10 with (first | ((with_reducible refine gate_callee (f := 18) rfl ?_); refine goesL_ (some 45) rfl rfl Tryd.func18 (by kernel_rfl) rfl #[.string t381] rfl (by (try simp only [List.map_toArray, List.map_cons, List.map_nil]); first | done | rfl | (simp only [List.length_drop, List.length_take]; rfl)) ?_; (with_reducible refine (book_Read.calls kj8 t381 t386 t387 t388 _ (Env.below hE (by repeat (first | (with_reducible first | exact HB.out | apply below_alloc | apply pw_below_drewN | apply below_drew1) | exact HB.out))) A15.out).mono ?_); rintro e w17 ⟨v389, rfl, ho0, hb⟩; refine ⟨_, rfl, ?_⟩; have n0_ := Aside0.mk (Kd.R_lower ho0 (below_size (by repeat (first | (with_reducible first | exact HB.out | apply below_alloc | apply pw_below_drewN | apply below_drew1) | exact HB.out)))); have n1_ := Aside0.mk (below_step (by repeat (first | (with_reducible first | exact HB.out | apply below_alloc | apply pw_below_drewN | apply below_drew1) | exact HB.out)) hb); clear HB; have HO390 := n0_; have HB := n1_; clear n0_ n1_; (try clear hb); (try clear hb2); (try clear hk); (try clear hi); (try clear ho0)))
            (try simp only [Act.put, List.setIfInBounds_toArray, List.set_cons_zero, List.set_cons_succ])
            go_cut [60] (fun v60 wc => ∃ (kq : Nat) (x60_15 : Bool), v60 = .bool x60_15 ∧ Aside0 (wigeonlaw09_BookWrites.j1 kq l0 a1 t381 x60_15 = some r) ∧ Aside0 (kq ≤ kj8) ∧ Aside0 (Below w.heap.size w wc))
            case first =>
              have H := HC16.out
              clear HC16
              by_cases c18 : t388 = 0
              · rw [if_pos c18] at H
                have c18b0 : (t388 == 0) = true := beq_iff_eq.mpr c18
                have c18b1 : (t388 != 0) = false := bne_eq_false_iff_eq.mpr c18
                clear c18
                (first | rw [c18b0] | (simp only [i64_w, i32_w]; rw [c18b0]) | skip)
                by_cases c19 : t387.toList = ([] : List UInt8)
                · rw [if_pos c19] at H
                  have c19b0 : (t387.toList == ([] : List UInt8)) = true := beq_iff_eq.mpr c19
                  have c19b1 : (t387.toList != ([] : List UInt8)) = false := bne_eq_false_iff_eq.mpr c19
                  clear c19
                  replace H := Option.bind_eq_some_iff.mp H
                  obtain ⟨t391, A200, H⟩ := H
                  replace H : (wigeonlaw09_BookWrites.j1 kj8 l0 a1 t381 (!t391)) = some r := H
                  have A20 := Aside0.mk A200
                  clear A200
                  have H' := Aside0.mk H
                  clear H
                  obtain ⟨Ao21, co21, eo21⟩ := Kd.R_slice HO390.out
                  subst eo21
                  go_wp2_with (first | (go_at_call 20; (with_reducible refine (wigeonref01_SameTexts.calls kj8 _ _ t386 _ _ l0 t391 _ ?side1 ?side2 ?side3 ?side4 A20.out).mono ?_); (case side1 => repeat (first | exact (Kd.R_reads' HO390.out).2.2 | (with_reducible refine Kd.C_alloc ?_ _) | (with_reducible refine Kd.C_drewN ?_ _) | (with_reducible refine Kd.C_drew ?_))); (case side2 => exact (Kd.R_reads' HO390.out).2.1); (case side3 => repeat (first | exact (Kd.C_below HR0.out HB.out) | (with_reducible refine Kd.C_alloc ?_ _) | (with_reducible refine Kd.C_drewN ?_ _) | (with_reducible refine Kd.C_drew ?_))); (case side4 => exact HC0.out); rintro e w' ⟨rfl, ⟨nd, rfl⟩⟩))
                  go_meet
                  case rel => exact ⟨_, (!t391), (by first | rfl | (simp; done) | (simp [*]; done)), H', ⟨by have := HJ8.out; first | omega | exact Nat.le_refl _⟩, ⟨by repeat (first | (with_reducible first | exact HB.out | apply below_alloc | apply pw_below_drewN | apply below_drew1) | exact HB.out)⟩⟩
                · rw [if_neg c19] at H
                  have c19b0 : (t387.toList == ([] : List UInt8)) = false := beq_eq_false_iff_ne.mpr c19
                  have c19b1 : (t387.toList != ([] : List UInt8)) = true := bne_iff_ne.mpr c19
                  have H' := Aside0.mk H
                  clear H
                  go_wp2
                  go_meet
                  case rel => exact ⟨_, (true), (by first | rfl | (simp; done) | (simp [*]; done)), H', ⟨by have := HJ8.out; first | omega | exact Nat.le_refl _⟩, ⟨by repeat (first | (with_reducible first | exact HB.out | apply below_alloc | apply pw_below_drewN | apply below_drew1) | exact HB.out)⟩⟩
              · rw [if_neg c18] at H
                have c18b0 : (t388 == 0) = false := beq_eq_false_iff_ne.mpr c18
                have c18b1 : (t388 != 0) = true := bne_iff_ne.mpr c18
                (first | rw [c18b0] | (simp only [i64_w, i32_w]; rw [c18b0]) | skip)
                have H' := Aside0.mk H
                clear H
                go_wp2
                go_meet
                case rel => exact ⟨_, (true), (by first | rfl | (simp; done) | (simp [*]; done)), H', ⟨by have := HJ8.out; first | omega | exact Nat.le_refl _⟩, ⟨by repeat (first | (with_reducible first | exact HB.out | apply below_alloc | apply pw_below_drewN | apply below_drew1) | exact HB.out)⟩⟩
            case rest =>
              clear HC16
              try clear c1
              try clear c2
              try clear p2
              try clear c4
              try clear c6
              try clear c8
              try clear c12
              try clear c12b0
              try clear c12b1
              try clear c13
              try clear c14
              try clear c14b0
              try clear c14b1
              try clear c17
              try clear c18
              try clear c18b0
              try clear c18b1
              try clear c19
              try clear c19b0
              try clear c19b1
              try clear p2
              obtain ⟨kq, x60_15, rfl, HA, HJ15, HB⟩ := hcut
              cases kq with
              | zero => exact absurd HA.out (by simp [wigeonlaw09_BookWrites.j1])
              | succ kj15 =>
                have H := HA.out
                clear HA
                simp only [wigeonlaw09_BookWrites.j1] at H
                by_cases c22 : x60_15 = true
                · subst c22
                  have H1 : (some false) = some r := by rw [if_pos rfl] at H; exact H
                  clear H
                  have H := H1
                  clear H1
                  obtain rfl := Option.some.inj H
                  go_wp2
                  go_ret
                  exact ⟨by first | rfl | (simp [errW_none, errW_some] <;> rfl) | (simp [*, errW_none, errW_some] <;> rfl), by repeat (first | (with_reducible first | exact HB.out | apply below_alloc | apply pw_below_drewN | apply below_drew1) | exact HB.out)⟩
                · replace c22 := Bool.eq_false_iff.mpr c22
                  subst c22
                  have H1 : (wigeonlaw09_BookWrites.l0 kj15 l0 a1 t381 0) = some r := by rw [if_neg (show ¬ (false = true) by decide)] at H; exact H
                  clear H
                  have H := H1
                  clear H1
                  have H' := Aside0.mk H
                  clear H
                  go_wp2
                  go_loopg [12] kj15 (fun kq v12 w' => ∃ (x12_3 : Int), v12 = .int .i64 x12_3 ∧ Aside0 (wigeonlaw09_BookWrites.l0 kq l0 a1 t381 x12_3 = some r) ∧ Aside0 (kq ≤ kj15) ∧ Aside0 (Below w.heap.size w w'))
                  case atStart => exact ⟨(0), (by first | rfl | (simp; done) | (simp [*]; done)), H', ⟨Nat.le_refl _⟩, ⟨by repeat (first | (with_reducible first | exact HB.out | apply below_alloc | apply pw_below_drewN | apply below_drew1) | exact HB.out)⟩⟩
                  case round =>
                    clear H'
                    try clear c1
                    try clear c2
                    try clear p2
                    try clear c4
                    try clear c6
                    try clear c8
                    try clear c12
                    try clear c12b0
                    try clear c12b1
                    try clear c13
                    try clear c14
                    try clear c14b0
                    try clear c14b1
                    try clear c17
                    try clear c18
                    try clear c18b0
                    try clear c18b1
                    try clear c19
                    try clear c19b0
                    try clear c19b1
                    try clear c22
                    try clear p2
                    obtain ⟨x12_3, rfl, HA, HK3, HB⟩ := hrel
                    cases gk with
                    | zero => exact absurd HA.out (by simp [wigeonlaw09_BookWrites.l0])
                    | succ k3 =>
                      have H := HA.out
                      clear HA
                      simp only [wigeonlaw09_BookWrites.l0] at H
                      by_cases c23 : 0 ≤ x12_3
                      · rw [if_pos c23] at H
                        have c23b0 : decide (0 ≤ x12_3) = true := decide_eq_true c23
                        clear c23
                        by_cases c24 : x12_3 < (t381.size : Int)
                        · rw [if_pos c24] at H
                          have c24b0 : decide (x12_3 < (t381.size : Int)) = true := decide_eq_true c24
                          clear c24
                          by_cases c26 : (bt t381 x12_3) = 10
                          · rw [if_pos c26] at H
                            have c26b0 : ((bt t381 x12_3) == 10) = true := beq_iff_eq.mpr c26
                            have c26b1 : ((bt t381 x12_3) != 10) = false := bne_eq_false_iff_eq.mpr c26
                            clear c26
                            by_cases c27 : (IntKind.u64.wrap (wrap64 ((t381.size : Int) - x12_3))) = 0
                            · rw [if_pos c27] at H
                              exact absurd H (by simp)
                            · rw [if_neg c27] at H
                              have c27b0 : ((IntKind.u64.wrap (wrap64 ((t381.size : Int) - x12_3))) == 0) = false := beq_eq_false_iff_ne.mpr c27
                              have c27b1 : ((IntKind.u64.wrap (wrap64 ((t381.size : Int) - x12_3))) != 0) = true := bne_iff_ne.mpr c27
                              obtain ⟨ji28, hji28⟩ : ∃ j_ : Int, (wrap64 ((wrap64 (x12_3 + 1)) + (wrap64 (Int.tmod (IntKind.u64.wrap (a1)) (IntKind.u64.wrap (wrap64 ((t381.size : Int) - x12_3))))))) = j_ := ⟨_, rfl⟩
                              replace H : (if 0 ≤ (ji28) then (if (ji28) ≤ (t381.size : Int) then ((book_Read.f k3 (t381.extract 0 ((ji28) : Int).toNat)).bind fun bt392 => (if bt392.2.2 = 0 then (if (bt392.1.length : Int) > (l0.length : Int) then (wigeonlaw09_BookWrites.j3 k3 x12_3 ji28 bt392.1 bt392.2.1 true) else (if 0 ≤ (bt392.1.length : Int) then (if (bt392.1.length : Int) ≤ (l0.length : Int) then ((wigeonref01_SameTexts.f k3 bt392.1 (l0.take ((bt392.1.length : Int) : Int).toNat)).bind fun t398 => (wigeonlaw09_BookWrites.j3 k3 x12_3 ji28 bt392.1 bt392.2.1 (!t398))) else (none)) else (none))) else (wigeonlaw09_BookWrites.j3 k3 x12_3 ji28 bt392.1 bt392.2.1 true))) else (none)) else (none)) = some r := by first | (rw [hji28] at H; exact H) | (simp only [hji28] at H ⊢; exact H)
                              have hji28w : (IntKind.i64.wrap ((wrap64 (x12_3 + 1)) + (wrap64 (Int.tmod (IntKind.u64.wrap (a1)) (IntKind.u64.wrap (wrap64 ((t381.size : Int) - x12_3))))))) = ji28 := (i64_w _).trans hji28
                              by_cases c29 : 0 ≤ (ji28)
                              · rw [if_pos c29] at H
                                have c29b0 := eq_true c29
                                have c29b1 : decide (0 ≤ (ji28)) = true := decide_eq_true c29
                                clear c29
                                by_cases c30 : (ji28) ≤ (t381.size : Int)
                                · rw [if_pos c30] at H
                                  have c30b0 := eq_true c30
                                  have c30b1 : decide ((ji28) ≤ (t381.size : Int)) = true := decide_eq_true c30
                                  clear c30
                                  replace H := Option.bind_eq_some_iff.mp H
                                  obtain ⟨⟨t392, t393, t394⟩, A310, H⟩ := H
                                  replace H : (if t394 = 0 then (if (t392.length : Int) > (l0.length : Int) then (wigeonlaw09_BookWrites.j3 k3 x12_3 ji28 t392 t393 true) else (if 0 ≤ (t392.length : Int) then (if (t392.length : Int) ≤ (l0.length : Int) then ((wigeonref01_SameTexts.f k3 t392 (l0.take ((t392.length : Int) : Int).toNat)).bind fun t398 => (wigeonlaw09_BookWrites.j3 k3 x12_3 ji28 t392 t393 (!t398))) else (none)) else (none))) else (wigeonlaw09_BookWrites.j3 k3 x12_3 ji28 t392 t393 true)) = some r := H
                                  have A31 := Aside0.mk A310
                                  clear A310
                                  have HC32 := Aside0.mk H
                                  clear H
                                  have p25 : 0 ≤ (x12_3 : Int) := of_decide_eq_true (by first | (with_reducible assumption) | assumption)
                                  have q25 : x12_3 < (t381.size : Int) := of_decide_eq_true (by first | (with_reducible assumption) | assumption)
                                  have hx25 := bt_at t381 x12_3
                                  replace p25 := eq_true p25
                                  replace q25 := eq_true q25
                                  go_upto_region 17 with (first | ((with_reducible refine gate_callee (f := 18) rfl ?_); refine goesL_ (some 83) rfl rfl Tryd.func18 (by kernel_rfl) rfl #[.string (t381.extract 0 ((ji28) : Int).toNat)] rfl (by (try simp only [List.map_toArray, List.map_cons, List.map_nil]); first | done | (simp only [hji28]; rfl) | rfl | (simp only [List.length_drop, List.length_take]; rfl)) ?_; (with_reducible refine (book_Read.calls k3 (t381.extract 0 ((ji28) : Int).toNat) t392 t393 t394 _ (Env.below hE (by repeat (first | (with_reducible first | exact HB.out | apply below_alloc | apply pw_below_drewN | apply below_drew1) | exact HB.out))) A31.out).mono ?_); rintro e w33 ⟨v395, rfl, ho0, hb⟩; refine ⟨_, rfl, ?_⟩; have n0_ := Aside0.mk (Kd.R_lower ho0 (below_size (by repeat (first | (with_reducible first | exact HB.out | apply below_alloc | apply pw_below_drewN | apply below_drew1) | exact HB.out)))); have n1_ := Aside0.mk (below_step (by repeat (first | (with_reducible first | exact HB.out | apply below_alloc | apply pw_below_drewN | apply below_drew1) | exact HB.out)) hb); clear HB; have HO396 := n0_; have HB := n1_; clear n0_ n1_; (try clear hb); (try clear hb2); (try clear hk); (try clear hi); (try clear ho0)))
                                  (try simp only [Act.put, List.setIfInBounds_toArray, List.set_cons_zero, List.set_cons_succ])
                                  go_cut [106] (fun v106 wc => ∃ (kq : Nat) (x106_31 : Bool), v106 = .bool x106_31 ∧ Aside0 (wigeonlaw09_BookWrites.j3 kq x12_3 ji28 t392 t393 x106_31 = some r) ∧ Aside0 (kq ≤ k3) ∧ Aside0 (Kd.R Kd.string 9 wc w.heap.size (fun _ => True) v395 t392) ∧ Aside0 (Below w.heap.size w wc))
                                  case first =>
                                    have H := HC32.out
                                    clear HC32
                                    by_cases c34 : t394 = 0
                                    · rw [if_pos c34] at H
                                      have c34b0 : (t394 == 0) = true := beq_iff_eq.mpr c34
                                      have c34b1 : (t394 != 0) = false := bne_eq_false_iff_eq.mpr c34
                                      clear c34
                                      (first | rw [c34b0] | (simp only [i64_w, i32_w]; rw [c34b0]) | skip)
                                      by_cases c35 : (t392.length : Int) > (l0.length : Int)
                                      · rw [if_pos c35] at H
                                        have c35b0 : decide ((l0.length : Int) < (t392.length : Int)) = true := decide_eq_true c35
                                        have c35b1 : decide (l0.length < t392.length) = true := decide_eq_true (Int.ofNat_lt.mp c35)
                                        clear c35
                                        have H' := Aside0.mk H
                                        clear H
                                        obtain ⟨Ao36, co36, eo36⟩ := Kd.R_slice HO396.out
                                        subst eo36
                                        go_wp2
                                        go_meet
                                        case rel => exact ⟨_, (true), (by first | rfl | (simp; done) | (simp [*]; done)), H', ⟨by have := HJ8.out; have := HJ15.out; have := HK3.out; first | omega | exact Nat.le_refl _⟩, ⟨by (with_reducible repeat (first | apply Kd.R_alloc | apply Kd.R_drewN | apply Kd.R_drew)); exact HO396.out⟩, ⟨by repeat (first | (with_reducible first | exact HB.out | apply below_alloc | apply pw_below_drewN | apply below_drew1) | exact HB.out)⟩⟩
                                      · rw [if_neg c35] at H
                                        have c35b0 : decide ((l0.length : Int) < (t392.length : Int)) = false := decide_eq_false c35
                                        have c35b1 : decide (l0.length < t392.length) = false := decide_eq_false (fun h => c35 (Int.ofNat_lt.mpr h))
                                        clear c35
                                        by_cases c37 : 0 ≤ (t392.length : Int)
                                        · rw [if_pos c37] at H
                                          have c37b0 := eq_true c37
                                          have c37b1 : decide (0 ≤ (t392.length : Int)) = true := decide_eq_true c37
                                          clear c37
                                          by_cases c38 : (t392.length : Int) ≤ (l0.length : Int)
                                          · rw [if_pos c38] at H
                                            have c38b0 := eq_true c38
                                            have c38b1 : decide ((t392.length : Int) ≤ (l0.length : Int)) = true := decide_eq_true c38
                                            clear c38
                                            replace H := Option.bind_eq_some_iff.mp H
                                            obtain ⟨t398, A390, H⟩ := H
                                            replace H : (wigeonlaw09_BookWrites.j3 k3 x12_3 ji28 t392 t393 (!t398)) = some r := H
                                            have A39 := Aside0.mk A390
                                            clear A390
                                            have H' := Aside0.mk H
                                            clear H
                                            obtain ⟨Ao40, co40, eo40⟩ := Kd.R_slice HO396.out
                                            subst eo40
                                            obtain ⟨i041, hi041, _, hsz41, _⟩ := info_parts info9
                                            obtain ⟨hcut41, hA41, hC41⟩ := print_take3_of (P := Tryd.prog) Value.string (⟨#[]⟩ : ByteArray) 22 9 .i64 Tryd.underlying22 hi041 hsz41 A0 c0 l0 (t392.length : Int) (of_decide_eq_true (by first | (with_reducible assumption) | assumption)) (of_decide_eq_true (by first | (with_reducible assumption) | assumption)) HC0.out
                                            have HR397 := Aside0.mk (Kd.C_of_reads (h1 := fun _ => rfl) (hA41 _ (Kd.reads_of_C HR0.out)))
                                            have HC397 := Aside0.mk hC41
                                            clear hA41 hC41 hi041 hsz41
                                            go_wp2_with (first | (go_at_call 20; (try rw [show min t392.length l0.length = (l0.take ((t392.length : Int) : Int).toNat).length from by simp]); (with_reducible refine (wigeonref01_SameTexts.calls k3 _ _ t392 _ _ (l0.take ((t392.length : Int) : Int).toNat) t398 _ ?side1 ?side2 ?side3 ?side4 A39.out).mono ?_); (case side1 => repeat (first | exact (Kd.R_reads' HO396.out).2.2 | (with_reducible refine Kd.C_alloc ?_ _) | (with_reducible refine Kd.C_drewN ?_ _) | (with_reducible refine Kd.C_drew ?_))); (case side2 => exact (Kd.R_reads' HO396.out).2.1); (case side3 => repeat (first | exact (Kd.C_below HR397.out HB.out) | (with_reducible refine Kd.C_alloc ?_ _) | (with_reducible refine Kd.C_drewN ?_ _) | (with_reducible refine Kd.C_drew ?_))); (case side4 => exact HC397.out); rintro e w' ⟨rfl, ⟨nd, rfl⟩⟩))
                                            go_meet
                                            case rel => exact ⟨_, (!t398), (by first | rfl | (simp; done) | (simp [*]; done)), H', ⟨by have := HJ8.out; have := HJ15.out; have := HK3.out; first | omega | exact Nat.le_refl _⟩, ⟨by (with_reducible repeat (first | apply Kd.R_alloc | apply Kd.R_drewN | apply Kd.R_drew)); exact HO396.out⟩, ⟨by repeat (first | (with_reducible first | exact HB.out | apply below_alloc | apply pw_below_drewN | apply below_drew1) | exact HB.out)⟩⟩
                                          · rw [if_neg c38] at H
                                            exact absurd H (by simp)
                                        · rw [if_neg c37] at H
                                          exact absurd H (by simp)
                                    · rw [if_neg c34] at H
                                      have c34b0 : (t394 == 0) = false := beq_eq_false_iff_ne.mpr c34
                                      have c34b1 : (t394 != 0) = true := bne_iff_ne.mpr c34
                                      (first | rw [c34b0] | (simp only [i64_w, i32_w]; rw [c34b0]) | skip)
                                      have H' := Aside0.mk H
                                      clear H
                                      go_wp2
                                      go_meet
                                      case rel => exact ⟨_, (true), (by first | rfl | (simp; done) | (simp [*]; done)), H', ⟨by have := HJ8.out; have := HJ15.out; have := HK3.out; first | omega | exact Nat.le_refl _⟩, ⟨by (with_reducible repeat (first | apply Kd.R_alloc | apply Kd.R_drewN | apply Kd.R_drew)); exact HO396.out⟩, ⟨by repeat (first | (with_reducible first | exact HB.out | apply below_alloc | apply pw_below_drewN | apply below_drew1) | exact HB.out)⟩⟩
                                  case rest =>
                                    clear HC32
                                    try clear c1
                                    try clear c2
                                    try clear p2
                                    try clear q2
                                    try clear hx2
                                    try clear c3
                                    try clear c4
                                    try clear c6
                                    try clear p6
                                    try clear c8
                                    try clear c12
                                    try clear c12b0
                                    try clear c12b1
                                    try clear c13
                                    try clear c14
                                    try clear c14b0
                                    try clear c14b1
                                    try clear c17
                                    try clear c18
                                    try clear c18b0
                                    try clear c18b1
                                    try clear c19
                                    try clear c19b0
                                    try clear c19b1
                                    try clear c22
                                    try clear c23
                                    try clear c23b0
                                    try clear c24
                                    try clear c24b0
                                    try clear p25
                                    try clear q25
                                    try clear hx25
                                    try clear c26
                                    try clear c26b0
                                    try clear c26b1
                                    try clear c27
                                    try clear c27b0
                                    try clear c27b1
                                    try clear c29
                                    try clear c29b0
                                    try clear c29b1
                                    try clear c30
                                    try clear c30b0
                                    try clear c30b1
                                    try clear c34
                                    try clear c34b0
                                    try clear c34b1
                                    try clear c35
                                    try clear c35b0
                                    try clear c35b1
                                    try clear c37
                                    try clear c37b0
                                    try clear c37b1
                                    try clear c38
                                    try clear c38b0
                                    try clear c38b1
                                    try clear p2
                                    try clear p25
                                    try clear q25
                                    obtain ⟨kq, x106_31, rfl, HA, HJ31, HO_14, HB⟩ := hcut
                                    cases kq with
                                    | zero => exact absurd HA.out (by simp [wigeonlaw09_BookWrites.j3])
                                    | succ kj31 =>
                                      have H := HA.out
                                      clear HA
                                      simp only [wigeonlaw09_BookWrites.j3] at H
                                      by_cases c42 : x106_31 = true
                                      · subst c42
                                        have H1 : (some false) = some r := by rw [if_pos rfl] at H; exact H
                                        clear H
                                        have H := H1
                                        clear H1
                                        obtain rfl := Option.some.inj H
                                        go_wp2
                                        go_ret
                                        exact ⟨by first | rfl | (simp [errW_none, errW_some] <;> rfl) | (simp only [← hji28]; first | rfl | (simp [errW_none, errW_some] <;> rfl)) | (simp [*, errW_none, errW_some] <;> rfl), by repeat (first | (with_reducible first | exact HB.out | apply below_alloc | apply pw_below_drewN | apply below_drew1) | exact HB.out)⟩
                                      · replace c42 := Bool.eq_false_iff.mpr c42
                                        subst c42
                                        have H1 : (wigeonlaw09_BookWrites.l1 kj31 ji28 t392 (wrap64 ((wrap64 (x12_3 + 1)) + (t393.size : Int))) 0) = some r := by rw [if_neg (show ¬ (false = true) by decide)] at H; exact H
                                        clear H
                                        have H := H1
                                        clear H1
                                        have H' := Aside0.mk H
                                        clear H
                                        go_wp2
                                        go_loopg [17, 18] kj31 (fun kq v17 v18 w' => ∃ (x17_5 : Int) (x18_5 : Int), v17 = .int .i64 x17_5 ∧ v18 = .int .i64 x18_5 ∧ Aside0 (wigeonlaw09_BookWrites.l1 kq ji28 t392 x17_5 x18_5 = some r) ∧ Aside0 (kq ≤ kj31) ∧ Aside0 (Kd.R Kd.string 9 w' w.heap.size (fun _ => True) v395 t392) ∧ Aside0 (Below w.heap.size w w'))
                                        case atStart => exact ⟨(wrap64 ((wrap64 (x12_3 + 1)) + (t393.size : Int))), (0), (by first | rfl | (simp; done) | (simp [*]; done)), (by first | rfl | (simp; done) | (simp [*]; done)), H', ⟨Nat.le_refl _⟩, ⟨by (with_reducible repeat (first | apply Kd.R_alloc | apply Kd.R_drewN | apply Kd.R_drew)); exact HO_14.out⟩, ⟨by repeat (first | (with_reducible first | exact HB.out | apply below_alloc | apply pw_below_drewN | apply below_drew1) | exact HB.out)⟩⟩
                                        case round =>
                                          clear H'
                                          try clear c1
                                          try clear c2
                                          try clear p2
                                          try clear q2
                                          try clear hx2
                                          try clear c3
                                          try clear c4
                                          try clear c6
                                          try clear p6
                                          try clear c8
                                          try clear c12
                                          try clear c12b0
                                          try clear c12b1
                                          try clear c13
                                          try clear c14
                                          try clear c14b0
                                          try clear c14b1
                                          try clear c17
                                          try clear c18
                                          try clear c18b0
                                          try clear c18b1
                                          try clear c19
                                          try clear c19b0
                                          try clear c19b1
                                          try clear c22
                                          try clear c23
                                          try clear c23b0
                                          try clear c24
                                          try clear c24b0
                                          try clear p25
                                          try clear q25
                                          try clear hx25
                                          try clear c26
                                          try clear c26b0
                                          try clear c26b1
                                          try clear c27
                                          try clear c27b0
                                          try clear c27b1
                                          try clear c29
                                          try clear c29b0
                                          try clear c29b1
                                          try clear c30
                                          try clear c30b0
                                          try clear c30b1
                                          try clear c34
                                          try clear c34b0
                                          try clear c34b1
                                          try clear c35
                                          try clear c35b0
                                          try clear c35b1
                                          try clear c37
                                          try clear c37b0
                                          try clear c37b1
                                          try clear c38
                                          try clear c38b0
                                          try clear c38b1
                                          try clear c42
                                          try clear p2
                                          try clear p25
                                          try clear p6
                                          try clear q2
                                          try clear q25
                                          obtain ⟨x17_5, x18_5, rfl, rfl, HA, HK5, HO_14, HB⟩ := hrel
                                          cases gk with
                                          | zero => exact absurd HA.out (by simp [wigeonlaw09_BookWrites.l1])
                                          | succ k5 =>
                                            have H := HA.out
                                            clear HA
                                            simp only [wigeonlaw09_BookWrites.l1] at H
                                            by_cases c43 : x18_5 < (t392.length : Int)
                                            · rw [if_pos c43] at H
                                              have c43b0 : decide (x18_5 < (t392.length : Int)) = true := decide_eq_true c43
                                              clear c43
                                              by_cases c44 : 0 ≤ x18_5
                                              · rw [if_pos c44] at H
                                                have c44b0 : decide (0 ≤ x18_5) = true := decide_eq_true c44
                                                clear c44
                                                have H' := Aside0.mk H
                                                clear H
                                                obtain ⟨Ao45, co45, eo45⟩ := Kd.R_slice HO_14.out
                                                subst eo45
                                                have p399 : 0 ≤ (x18_5 : Int) := of_decide_eq_true (by first | (with_reducible assumption) | assumption)
                                                have q399 : x18_5 < (t392.length : Int) := of_decide_eq_true (by first | (with_reducible assumption) | assumption)
                                                obtain ⟨ad399, e399, hx399_0⟩ := Kd.at_string (Kd.R_reads' HO_14.out).2.2 x18_5 p399 q399
                                                cases e399
                                                replace p399 := eq_true p399
                                                replace q399 := eq_true q399
                                                go_wp2
                                                go_roundg k5
                                                case measure => have := HJ8.out; have := HJ15.out; have := HK3.out; have := HJ31.out; have := HK5.out; omega
                                                case rel => exact ⟨(wrap64 (x17_5 + (wrap64 (((rdOf ByteArray.empty t392 x18_5).size : Int) + 1)))), (wrap64 (x18_5 + 1)), (by first | rfl | (simp; done) | (simp [*]; done)), (by first | rfl | (simp; done) | (simp [*]; done)), H', ⟨by have := HJ8.out; have := HJ15.out; have := HK3.out; have := HJ31.out; have := HK5.out; omega⟩, ⟨by (with_reducible repeat (first | apply Kd.R_alloc | apply Kd.R_drewN | apply Kd.R_drew)); exact HO_14.out⟩, ⟨by repeat (first | (with_reducible first | exact HB.out | apply below_alloc | apply pw_below_drewN | apply below_drew1) | exact HB.out)⟩⟩
                                              · rw [if_neg c44] at H
                                                exact absurd H (by simp)
                                            · rw [if_neg c43] at H
                                              have c43b0 : decide (x18_5 < (t392.length : Int)) = false := decide_eq_false c43
                                              clear c43
                                              by_cases c46 : x17_5 = ji28
                                              · rw [if_pos c46] at H
                                                have c46b0 : (x17_5 == ji28) = true := beq_iff_eq.mpr c46
                                                have c46b1 : (x17_5 != ji28) = false := bne_eq_false_iff_eq.mpr c46
                                                clear c46
                                                replace H := Option.bind_eq_some_iff.mp H
                                                obtain ⟨t400, A470, H⟩ := H
                                                replace H : (some t400) = some r := H
                                                have A47 := Aside0.mk A470
                                                clear A470
                                                obtain rfl := Option.some.inj H
                                                obtain ⟨Ao48, co48, eo48⟩ := Kd.R_slice HO_14.out
                                                subst eo48
                                                go_wp2_with (first | (go_at_call 17; (with_reducible refine (wigeonlaw09_known.calls k5  t400 _ A47.out).mono ?_); rintro e w49 ⟨rfl, hb⟩; have n0_ := Aside0.mk (Kd.R_below (by (with_reducible repeat (first | apply Kd.R_alloc | apply Kd.R_drewN | apply Kd.R_drew)); exact HO_14.out) hb); have n1_ := Aside0.mk (below_step (by repeat (first | (with_reducible first | exact HB.out | apply below_alloc | apply pw_below_drewN | apply below_drew1) | exact HB.out)) hb); clear HO_14; clear HB; have HO_14 := n0_; have HB := n1_; clear n0_ n1_; (try clear hb); (try clear hb2); (try clear hk); (try clear hi)))
                                                go_ret
                                                exact ⟨by first | rfl | (simp [errW_none, errW_some] <;> rfl) | (simp only [← hji28]; first | rfl | (simp [errW_none, errW_some] <;> rfl)) | (simp [*, errW_none, errW_some] <;> rfl), by repeat (first | (with_reducible first | exact HB.out | apply below_alloc | apply pw_below_drewN | apply below_drew1) | exact HB.out)⟩
                                              · rw [if_neg c46] at H
                                                have c46b0 : (x17_5 == ji28) = false := beq_eq_false_iff_ne.mpr c46
                                                have c46b1 : (x17_5 != ji28) = true := bne_iff_ne.mpr c46
                                                obtain rfl := Option.some.inj H
                                                obtain ⟨Ao50, co50, eo50⟩ := Kd.R_slice HO_14.out
                                                subst eo50
                                                go_wp2
                                                go_ret
                                                exact ⟨by first | rfl | (simp [errW_none, errW_some] <;> rfl) | (simp only [← hji28]; first | rfl | (simp [errW_none, errW_some] <;> rfl)) | (simp [*, errW_none, errW_some] <;> rfl), by repeat (first | (with_reducible first | exact HB.out | apply below_alloc | apply pw_below_drewN | apply below_drew1) | exact HB.out)⟩
                                · rw [if_neg c30] at H
                                  exact absurd H (by simp)
                              · rw [if_neg c29] at H
                                exact absurd H (by simp)
                          · rw [if_neg c26] at H
                            have c26b0 : ((bt t381 x12_3) == 10) = false := beq_eq_false_iff_ne.mpr c26
                            have c26b1 : ((bt t381 x12_3) != 10) = true := bne_iff_ne.mpr c26
                            have H' := Aside0.mk H
                            clear H
                            have p25 : 0 ≤ (x12_3 : Int) := of_decide_eq_true (by first | (with_reducible assumption) | assumption)
                            have q25 : x12_3 < (t381.size : Int) := of_decide_eq_true (by first | (with_reducible assumption) | assumption)
                            have hx25 := bt_at t381 x12_3
                            replace p25 := eq_true p25
                            replace q25 := eq_true q25
                            go_wp2
                            go_roundg k3
                            case measure => have := HJ8.out; have := HJ15.out; have := HK3.out; omega
                            case rel => exact ⟨(wrap64 (x12_3 + 1)), (by first | rfl | (simp; done) | (simp [*]; done)), H', ⟨by have := HJ8.out; have := HJ15.out; have := HK3.out; omega⟩, ⟨by repeat (first | (with_reducible first | exact HB.out | apply below_alloc | apply pw_below_drewN | apply below_drew1) | exact HB.out)⟩⟩
                        · rw [if_neg c24] at H
                          exact absurd H (by simp)
                      · rw [if_neg c23] at H
                        exact absurd H (by simp)
          · rw [if_neg c14] at H
            have c14b0 : (t382 == 0) = false := beq_eq_false_iff_ne.mpr c14
            have c14b1 : (t382 != 0) = true := bne_iff_ne.mpr c14
            replace H := Option.bind_eq_some_iff.mp H
            obtain ⟨t385, A510, H⟩ := H
            replace H : (some t385) = some r := H
            have A51 := Aside0.mk A510
            clear A510
            obtain rfl := Option.some.inj H
            go_wp2_with (first | ((with_reducible refine gate_callee (f := 17) rfl ?_); refine goesL_ (some 42) rfl rfl Tryd.func17 (by kernel_rfl) rfl #[] rfl (by (try simp only [List.map_toArray, List.map_cons, List.map_nil]); first | done | rfl | (simp only [List.length_drop, List.length_take]; rfl)) ?_; (with_reducible refine (wigeonlaw09_known.calls kj8  t385 _ A51.out).mono ?_); rintro e w52 ⟨rfl, hb⟩; refine ⟨_, rfl, ?_⟩; have n0_ := Aside0.mk (below_step (by repeat (first | (with_reducible first | exact HB.out | apply below_alloc | apply pw_below_drewN | apply below_drew1) | exact HB.out)) hb); clear HB; have HB := n0_; clear n0_; (try clear hb); (try clear hb2); (try clear hk); (try clear hi)))
            go_ret
            exact ⟨by first | rfl | (simp [errW_none, errW_some] <;> rfl) | (simp [*, errW_none, errW_some] <;> rfl), by repeat (first | (with_reducible first | exact HB.out | apply below_alloc | apply pw_below_drewN | apply below_drew1) | exact HB.out)⟩

end Go.Proofs.YtfccgfjiplnmfaaDoor.BA

