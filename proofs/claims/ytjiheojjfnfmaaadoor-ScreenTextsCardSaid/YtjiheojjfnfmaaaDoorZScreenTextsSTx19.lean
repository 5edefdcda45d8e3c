/- Of the text STx19, what the row of ScreenTexts reaches. -/
import Derived.Test.YtjiheojjfnfmaaaDoorZScreenTextsSTx0
import Derived.Test.YtjiheojjfnfmaaaDoorZScreenTextsSTx15
import Derived.Test.YtjiheojjfnfmaaaDoorZScreenTextsSTx18
namespace Go.Proofs.YtjiheojjfnfmaaaDoor.ST
open Go.RowKit Go.Proofs.YtjiheojjfnfmaaaDoorW.PrintWords Go.Proofs.YtjiheojjfnfmaaaDoorW.PrintLast Go.Proofs.YtjiheojjfnfmaaaDoorW.PrintMore
attribute [local go_sem] max2_int min2_int max_two min_two max_three min_three max_four min_four   -- for this text's walks alone
set_option linter.unusedVariables false
set_option linter.unusedSimpArgs false

def wigeonref02_line.f (a0_0 : Int) (a0_1 : Int) (a0_2 : Int) (a0_3 : Int) : Option (ByteArray) := (strconv_Itoa_22.f a0_0).bind fun t194 => (if t194.size + 1 ≤ 9223372036854775807 then ((strconv_Itoa_22.f a0_1).bind fun t195 => (if (t194 ++ (⟨#[32]⟩ : ByteArray)).size + t195.size ≤ 9223372036854775807 then (if ((t194 ++ (⟨#[32]⟩ : ByteArray)) ++ t195).size + 1 ≤ 9223372036854775807 then ((strconv_Itoa_22.f a0_2).bind fun t196 => (if (((t194 ++ (⟨#[32]⟩ : ByteArray)) ++ t195) ++ (⟨#[32]⟩ : ByteArray)).size + t196.size ≤ 9223372036854775807 then (if ((((t194 ++ (⟨#[32]⟩ : ByteArray)) ++ t195) ++ (⟨#[32]⟩ : ByteArray)) ++ t196).size + 1 ≤ 9223372036854775807 then ((strconv_Itoa_22.f a0_3).bind fun t197 => (if (((((t194 ++ (⟨#[32]⟩ : ByteArray)) ++ t195) ++ (⟨#[32]⟩ : ByteArray)) ++ t196) ++ (⟨#[32]⟩ : ByteArray)).size + t197.size ≤ 9223372036854775807 then (if ((((((t194 ++ (⟨#[32]⟩ : ByteArray)) ++ t195) ++ (⟨#[32]⟩ : ByteArray)) ++ t196) ++ (⟨#[32]⟩ : ByteArray)) ++ t197).size + 1 ≤ 9223372036854775807 then (some (((((((t194 ++ (⟨#[32]⟩ : ByteArray)) ++ t195) ++ (⟨#[32]⟩ : ByteArray)) ++ t196) ++ (⟨#[32]⟩ : ByteArray)) ++ t197) ++ (⟨#[10]⟩ : ByteArray))) else (none)) else (none))) else (none)) else (none))) else (none)) else (none))) else (none))
def wigeonref02_line.T1 : Bool × List (List Nat × List Nat) := (true, [([], []), ([0], [0]), ([1], [1]), ([2], [2]), ([3], [3]), ([], []), ([5], [5]), ([6], [6]), ([7, 3], [7]), ([4, 8], [4, 8]), ([9], [9]), ([], []), ([11], [11]), ([12], [12]), ([13, 8], [13]), ([10, 14], [10, 14]), ([15], [15]), ([], []), ([17], [17]), ([18], [18]), ([19, 14], [19]), ([16, 20], [16, 20]), ([21], [21]), ([22, 20, 0, 1, 2, 3, 4, 5, 6, 7, 8, 9, 10, 11, 12, 13, 14, 15, 16, 17, 18, 19, 20, 21, 22], [22])])
def wigeonref02_line.B1 : List Nat := [0, 1, 3, 7, 15, 0, 32, 96, 239, 511, 1023, 0, 2048, 6144, 14831, 32767, 65535, 0, 131072, 393216, 948719, 2097151, 4194303, 8388607]
theorem wigeonref02_line.tab1 : rtab .any (opsOf Tryd.f25 1) = wigeonref02_line.T1 := by kernel_rfl
theorem wigeonref02_line.bits1 : waitsOk wigeonref02_line.T1.2 wigeonref02_line.B1 = true := by kernel_rfl
set_option maxHeartbeats 8000000 in
set_option maxRecDepth 100000 in
theorem wigeonref02_line.calls (a0_0 : Int) (a0_1 : Int) (a0_2 : Int) (a0_3 : Int) (r : ByteArray) (w : World) (hE : Env w) (h : wigeonref02_line.f a0_0 a0_1 a0_2 a0_3 = some r) :
    Calls Tryd.prog 25 #[.agg #[.int .i64 a0_0, .int .i64 a0_1, .int .i64 a0_2, .int .i64 a0_3]] w fun e w' => e = .returned (.string r) ∧ Below w.heap.size w w' := by
  have hu46 := Tryd.underlying46
  have HB := Aside0.mk (Below.refl w.heap.size w)
  have H : ((strconv_Itoa_22.f a0_0).bind fun t194 => (if t194.size + 1 ≤ 9223372036854775807 then ((strconv_Itoa_22.f a0_1).bind fun t195 => (if (t194 ++ (⟨#[32]⟩ : ByteArray)).size + t195.size ≤ 9223372036854775807 then (if ((t194 ++ (⟨#[32]⟩ : ByteArray)) ++ t195).size + 1 ≤ 9223372036854775807 then ((strconv_Itoa_22.f a0_2).bind fun t196 => (if (((t194 ++ (⟨#[32]⟩ : ByteArray)) ++ t195) ++ (⟨#[32]⟩ : ByteArray)).size + t196.size ≤ 9223372036854775807 then (if ((((t194 ++ (⟨#[32]⟩ : ByteArray)) ++ t195) ++ (⟨#[32]⟩ : ByteArray)) ++ t196).size + 1 ≤ 9223372036854775807 then ((strconv_Itoa_22.f a0_3).bind fun t197 => (if (((((t194 ++ (⟨#[32]⟩ : ByteArray)) ++ t195) ++ (⟨#[32]⟩ : ByteArray)) ++ t196) ++ (⟨#[32]⟩ : ByteArray)).size + t197.size ≤ 9223372036854775807 then (if ((((((t194 ++ (⟨#[32]⟩ : ByteArray)) ++ t195) ++ (⟨#[32]⟩ : ByteArray)) ++ t196) ++ (⟨#[32]⟩ : ByteArray)) ++ t197).size + 1 ≤ 9223372036854775807 then (some (((((((t194 ++ (⟨#[32]⟩ : ByteArray)) ++ t195) ++ (⟨#[32]⟩ : ByteArray)) ++ t196) ++ (⟨#[32]⟩ : ByteArray)) ++ t197) ++ (⟨#[10]⟩ : ByteArray))) else (none)) else (none))) else (none)) else (none))) else (none)) else (none))) else (none))) = some r := h
  clear h
  replace H := Option.bind_eq_some_iff.mp H
  obtain ⟨t194, A20, H⟩ := H
  replace H : (if t194.size + 1 ≤ 9223372036854775807 then ((strconv_Itoa_22.f a0_1).bind fun t195 => (if (t194 ++ (⟨#[32]⟩ : ByteArray)).size + t195.size ≤ 9223372036854775807 then (if ((t194 ++ (⟨#[32]⟩ : ByteArray)) ++ t195).size + 1 ≤ 9223372036854775807 then ((strconv_Itoa_22.f a0_2).bind fun t196 => (if (((t194 ++ (⟨#[32]⟩ : ByteArray)) ++ t195) ++ (⟨#[32]⟩ : ByteArray)).size + t196.size ≤ 9223372036854775807 then (if ((((t194 ++ (⟨#[32]⟩ : ByteArray)) ++ t195) ++ (⟨#[32]⟩ : ByteArray)) ++ t196).size + 1 ≤ 9223372036854775807 then ((strconv_Itoa_22.f a0_3).bind fun t197 => (if (((((t194 ++ (⟨#[32]⟩ : ByteArray)) ++ t195) ++ (⟨#[32]⟩ : ByteArray)) ++ t196) ++ (⟨#[32]⟩ : ByteArray)).size + t197.size ≤ 9223372036854775807 then (if ((((((t194 ++ (⟨#[32]⟩ : ByteArray)) ++ t195) ++ (⟨#[32]⟩ : ByteArray)) ++ t196) ++ (⟨#[32]⟩ : ByteArray)) ++ t197).size + 1 ≤ 9223372036854775807 then (some (((((((t194 ++ (⟨#[32]⟩ : ByteArray)) ++ t195) ++ (⟨#[32]⟩ : ByteArray)) ++ t196) ++ (⟨#[32]⟩ : ByteArray)) ++ t197) ++ (⟨#[10]⟩ : ByteArray))) else (none)) else (none))) else (none)) else (none))) else (none)) else (none))) else (none)) = some r := H
  have A2 := Aside0.mk A20
  clear A20
  by_cases c3 : t194.size + 1 ≤ 9223372036854775807
  · rw [if_pos c3] at H
    have c3b0 := eq_true c3
    have c3b1 : decide (t194.size + 1 ≤ 9223372036854775807) = true := decide_eq_true c3
    try have c3b2 : (9223372036854775807 < t194.size + 1) = False := eq_false (Nat.not_lt.2 c3)
    replace H := Option.bind_eq_some_iff.mp H
    obtain ⟨t195, A40, H⟩ := H
    replace H : (if (t194 ++ (⟨#[32]⟩ : ByteArray)).size + t195.size ≤ 9223372036854775807 then (if ((t194 ++ (⟨#[32]⟩ : ByteArray)) ++ t195).size + 1 ≤ 9223372036854775807 then ((strconv_Itoa_22.f a0_2).bind fun t196 => (if (((t194 ++ (⟨#[32]⟩ : ByteArray)) ++ t195) ++ (⟨#[32]⟩ : ByteArray)).size + t196.size ≤ 9223372036854775807 then (if ((((t194 ++ (⟨#[32]⟩ : ByteArray)) ++ t195) ++ (⟨#[32]⟩ : ByteArray)) ++ t196).size + 1 ≤ 9223372036854775807 then ((strconv_Itoa_22.f a0_3).bind fun t197 => (if (((((t194 ++ (⟨#[32]⟩ : ByteArray)) ++ t195) ++ (⟨#[32]⟩ : ByteArray)) ++ t196) ++ (⟨#[32]⟩ : ByteArray)).size + t197.size ≤ 9223372036854775807 then (if ((((((t194 ++ (⟨#[32]⟩ : ByteArray)) ++ t195) ++ (⟨#[32]⟩ : ByteArray)) ++ t196) ++ (⟨#[32]⟩ : ByteArray)) ++ t197).size + 1 ≤ 9223372036854775807 then (some (((((((t194 ++ (⟨#[32]⟩ : ByteArray)) ++ t195) ++ (⟨#[32]⟩ : ByteArray)) ++ t196) ++ (⟨#[32]⟩ : ByteArray)) ++ t197) ++ (⟨#[10]⟩ : ByteArray))) else (none)) else (none))) else (none)) else (none))) else (none)) else (none)) = some r := H
    have A4 := Aside0.mk A40
    clear A40
    by_cases c5 : (t194 ++ (⟨#[32]⟩ : ByteArray)).size + t195.size ≤ 9223372036854775807
    · rw [if_pos c5] at H
      have c5b0 := eq_true c5
      have c5b1 : decide ((t194 ++ (⟨#[32]⟩ : ByteArray)).size + t195.size ≤ 9223372036854775807) = true := decide_eq_true c5
      try have c5b2 : (9223372036854775807 < (t194 ++ (⟨#[32]⟩ : ByteArray)).size + t195.size) = False := eq_false (Nat.not_lt.2 c5)
      try have c5b3 : (9223372036854775807 < t194.size + 1 + t195.size) = False := eq_false (by have z_ := c5; simp only [ByteArray.size_append, show (⟨#[32]⟩ : ByteArray).size = 1 from rfl] at z_; omega)
      by_cases c6 : ((t194 ++ (⟨#[32]⟩ : ByteArray)) ++ t195).size + 1 ≤ 9223372036854775807
      · rw [if_pos c6] at H
        have c6b0 := eq_true c6
        have c6b1 : decide (((t194 ++ (⟨#[32]⟩ : ByteArray)) ++ t195).size + 1 ≤ 9223372036854775807) = true := decide_eq_true c6
        try have c6b2 : (9223372036854775807 < ((t194 ++ (⟨#[32]⟩ : ByteArray)) ++ t195).size + 1) = False := eq_false (Nat.not_lt.2 c6)
        try have c6b3 : (9223372036854775807 < t194.size + 1 + t195.size + 1) = False := eq_false (by have z_ := c6; simp only [ByteArray.size_append, show (⟨#[32]⟩ : ByteArray).size = 1 from rfl] at z_; omega)
        replace H := Option.bind_eq_some_iff.mp H
        obtain ⟨t196, A70, H⟩ := H
        replace H : (if (((t194 ++ (⟨#[32]⟩ : ByteArray)) ++ t195) ++ (⟨#[32]⟩ : ByteArray)).size + t196.size ≤ 9223372036854775807 then (if ((((t194 ++ (⟨#[32]⟩ : ByteArray)) ++ t195) ++ (⟨#[32]⟩ : ByteArray)) ++ t196).size + 1 ≤ 9223372036854775807 then ((strconv_Itoa_22.f a0_3).bind fun t197 => (if (((((t194 ++ (⟨#[32]⟩ : ByteArray)) ++ t195) ++ (⟨#[32]⟩ : ByteArray)) ++ t196) ++ (⟨#[32]⟩ : ByteArray)).size + t197.size ≤ 9223372036854775807 then (if ((((((t194 ++ (⟨#[32]⟩ : ByteArray)) ++ t195) ++ (⟨#[32]⟩ : ByteArray)) ++ t196) ++ (⟨#[32]⟩ : ByteArray)) ++ t197).size + 1 ≤ 9223372036854775807 then (some (((((((t194 ++ (⟨#[32]⟩ : ByteArray)) ++ t195) ++ (⟨#[32]⟩ : ByteArray)) ++ t196) ++ (⟨#[32]⟩ : ByteArray)) ++ t197) ++ (⟨#[10]⟩ : ByteArray))) else (none)) else (none))) else (none)) else (none)) = some r := H
        have A7 := Aside0.mk A70
        clear A70
        by_cases c8 : (((t194 ++ (⟨#[32]⟩ : ByteArray)) ++ t195) ++ (⟨#[32]⟩ : ByteArray)).size + t196.size ≤ 9223372036854775807
        · rw [if_pos c8] at H
          have c8b0 := eq_true c8
          have c8b1 : decide ((((t194 ++ (⟨#[32]⟩ : ByteArray)) ++ t195) ++ (⟨#[32]⟩ : ByteArray)).size + t196.size ≤ 9223372036854775807) = true := decide_eq_true c8
          try have c8b2 : (9223372036854775807 < (((t194 ++ (⟨#[32]⟩ : ByteArray)) ++ t195) ++ (⟨#[32]⟩ : ByteArray)).size + t196.size) = False := eq_false (Nat.not_lt.2 c8)
          try have c8b3 : (9223372036854775807 < t194.size + 1 + t195.size + 1 + t196.size) = False := eq_false (by have z_ := c8; simp only [ByteArray.size_append, show (⟨#[32]⟩ : ByteArray).size = 1 from rfl] at z_; omega)
          by_cases c9 : ((((t194 ++ (⟨#[32]⟩ : ByteArray)) ++ t195) ++ (⟨#[32]⟩ : ByteArray)) ++ t196).size + 1 ≤ 9223372036854775807
          · rw [if_pos c9] at H
            have c9b0 := eq_true c9
            have c9b1 : decide (((((t194 ++ (⟨#[32]⟩ : ByteArray)) ++ t195) ++ (⟨#[32]⟩ : ByteArray)) ++ t196).size + 1 ≤ 9223372036854775807) = true := decide_eq_true c9
            try have c9b2 : (9223372036854775807 < ((((t194 ++ (⟨#[32]⟩ : ByteArray)) ++ t195) ++ (⟨#[32]⟩ : ByteArray)) ++ t196).size + 1) = False := eq_false (Nat.not_lt.2 c9)
            try have c9b3 : (9223372036854775807 < t194.size + 1 + t195.size + 1 + t196.size + 1) = False := eq_false (by have z_ := c9; simp only [ByteArray.size_append, show (⟨#[32]⟩ : ByteArray).size = 1 from rfl] at z_; omega)
            replace H := Option.bind_eq_some_iff.mp H
            obtain ⟨t197, A100, H⟩ := H
            replace H : (if (((((t194 ++ (⟨#[32]⟩ : ByteArray)) ++ t195) ++ (⟨#[32]⟩ : ByteArray)) ++ t196) ++ (⟨#[32]⟩ : ByteArray)).size + t197.size ≤ 9223372036854775807 then (if ((((((t194 ++ (⟨#[32]⟩ : ByteArray)) ++ t195) ++ (⟨#[32]⟩ : ByteArray)) ++ t196) ++ (⟨#[32]⟩ : ByteArray)) ++ t197).size + 1 ≤ 9223372036854775807 then (some (((((((t194 ++ (⟨#[32]⟩ : ByteArray)) ++ t195) ++ (⟨#[32]⟩ : ByteArray)) ++ t196) ++ (⟨#[32]⟩ : ByteArray)) ++ t197) ++ (⟨#[10]⟩ : ByteArray))) else (none)) else (none)) = some r := H
            have A10 := Aside0.mk A100
            clear A100
            by_cases c11 : (((((t194 ++ (⟨#[32]⟩ : ByteArray)) ++ t195) ++ (⟨#[32]⟩ : ByteArray)) ++ t196) ++ (⟨#[32]⟩ : ByteArray)).size + t197.size ≤ 9223372036854775807
            · rw [if_pos c11] at H
              have c11b0 := eq_true c11
              have c11b1 : decide ((((((t194 ++ (⟨#[32]⟩ : ByteArray)) ++ t195) ++ (⟨#[32]⟩ : ByteArray)) ++ t196) ++ (⟨#[32]⟩ : ByteArray)).size + t197.size ≤ 9223372036854775807) = true := decide_eq_true c11
              try have c11b2 : (9223372036854775807 < (((((t194 ++ (⟨#[32]⟩ : ByteArray)) ++ t195) ++ (⟨#[32]⟩ : ByteArray)) ++ t196) ++ (⟨#[32]⟩ : ByteArray)).size + t197.size) = False := eq_false (Nat.not_lt.2 c11)
              try have c11b3 : (9223372036854775807 < t194.size + 1 + t195.size + 1 + t196.size + 1 + t197.size) = False := eq_false (by have z_ := c11; simp only [ByteArray.size_append, show (⟨#[32]⟩ : ByteArray).size = 1 from rfl] at z_; omega)
              by_cases c12 : ((((((t194 ++ (⟨#[32]⟩ : ByteArray)) ++ t195) ++ (⟨#[32]⟩ : ByteArray)) ++ t196) ++ (⟨#[32]⟩ : ByteArray)) ++ t197).size + 1 ≤ 9223372036854775807
              · rw [if_pos c12] at H
                have c12b0 := eq_true c12
                have c12b1 : decide (((((((t194 ++ (⟨#[32]⟩ : ByteArray)) ++ t195) ++ (⟨#[32]⟩ : ByteArray)) ++ t196) ++ (⟨#[32]⟩ : ByteArray)) ++ t197).size + 1 ≤ 9223372036854775807) = true := decide_eq_true c12
                try have c12b2 : (9223372036854775807 < ((((((t194 ++ (⟨#[32]⟩ : ByteArray)) ++ t195) ++ (⟨#[32]⟩ : ByteArray)) ++ t196) ++ (⟨#[32]⟩ : ByteArray)) ++ t197).size + 1) = False := eq_false (Nat.not_lt.2 c12)
                try have c12b3 : (9223372036854775807 < t194.size + 1 + t195.size + 1 + t196.size + 1 + t197.size + 1) = False := eq_false (by have z_ := c12; simp only [ByteArray.size_append, show (⟨#[32]⟩ : ByteArray).size = 1 from rfl] at z_; omega)
                obtain rfl := Option.some.inj H
                go_enter Tryd.func25, Tryd.ntmps25
                try go_wp2_with (first | ((with_reducible refine gate_dst (N := 1) rfl ?_); refine box_event ?hg (N := 1) ?hd (cs := #[.int .i64 a0_0, .int .i64 a0_1, .int .i64 a0_2, .int .i64 a0_3]) (t := 46) ?hr ?_; (case hd => rfl); (case hg => rfl); (case hr => first | (go_simp; done) | (go_simp; rfl)); intro gb193 hg w13 hbox hb; have n0_ := Aside0.mk (below_step (by repeat (first | (with_reducible first | exact HB.out | apply below_alloc | apply pw_below_drewN | apply below_drew1) | exact HB.out)) hb); have n1_ := Aside0.mk (hbox); have n2_ := Aside0.mk ((by rw [hg]; exact (below_size (by repeat (first | (with_reducible first | exact HB.out | apply below_alloc | apply pw_below_drewN | apply below_drew1) | exact HB.out))) : w.heap.size ≤ gb193)); have n3_ := Aside0.mk ((by rw [hg]; exact (below_size (by repeat (first | (with_reducible first | exact HB.out | apply below_alloc | apply pw_below_drewN | apply below_drew1) | exact HB.out))) : w.heap.size ≤ gb193)); clear HB; have HB := n0_; have BK193 := n1_; have GW193 := n2_; have GE193 := n3_; clear n0_ n1_ n2_ n3_; clear hb hbox hg))
                have n0_ := Aside0.mk (blk_drew BK193.out)
                have n1_ := Aside0.mk (below_drew1 HB.out)
                clear BK193
                clear HB
                have BK193 := n0_
                have HB := n1_
                clear n0_ n1_
                refine start_ (n := 24) (S := fun w' => w'.cell? ⟨gb193, 0, none⟩ = some (.int .i64 a0_0) ∧ w'.cell? ⟨gb193, 1, none⟩ = some (.int .i64 a0_1) ∧ w'.cell? ⟨gb193, 2, none⟩ = some (.int .i64 a0_2) ∧ w'.cell? ⟨gb193, 3, none⟩ = some (.int .i64 a0_3)) (ds := []) #[false, false, false, false, false, false, false, false, false, false, false, false, false, false, false, false, false, false, false, false, false, false, false, false] (by kernel_rfl) rfl rfl ⟨(blk_cell BK193.out 0).trans rfl, (blk_cell BK193.out 1).trans rfl, (blk_cell BK193.out 2).trans rfl, (blk_cell BK193.out 3).trans rfl⟩ (fun hHeld => ?_); refine with_tabW wigeonref02_line.tab1 wigeonref02_line.bits1 (fun HT_ HW_ => ?_)
                generalize w13.drew = w14 at BK193 HB hHeld ⊢
                refine pure_ (i := 0) (N := some 3) (v := ?_) (a' := ?_) #[true, false, false, false, false, false, false, false, false, false, false, false, false, false, false, false, false, false, false, false, false, false, false, false] rfl rfl (any_of HT_.out (by kernel_rfl)) (fun _ _ _ h => h) (Or.inl ⟨by rfl, ?_⟩) ?_ ?_
                rotate_left
                · intro w'
                  go_simp
                  with_reducible rfl
                rotate_left
                · simp only [Act.put, List.setIfInBounds_toArray, List.set_cons_zero, List.set_cons_succ, i64_w, i32_w]
                  rfl
                refine pure_ (i := 1) (N := some 4) (v := ?_) (a' := ?_) #[true, true, false, false, false, false, false, false, false, false, false, false, false, false, false, false, false, false, false, false, false, false, false, false] rfl rfl (any_of HT_.out (by kernel_rfl)) (fun _ _ _ h => h) (Or.inl ⟨by rfl, ?_⟩) ?_ ?_
                rotate_left
                · intro w'
                  go_simp
                  with_reducible rfl
                rotate_left
                · simp only [Act.put, List.setIfInBounds_toArray, List.set_cons_zero, List.set_cons_succ, i64_w, i32_w]
                  rfl
                refine pure_ (i := 5) (N := some 8) (v := ?_) (a' := ?_) #[true, true, false, false, false, true, false, false, false, false, false, false, false, false, false, false, false, false, false, false, false, false, false, false] rfl rfl (any_of HT_.out (by kernel_rfl)) (fun _ _ _ h => h) (Or.inl ⟨by rfl, ?_⟩) ?_ ?_
                rotate_left
                · intro w'
                  go_simp
                  with_reducible rfl
                rotate_left
                · simp only [Act.put, List.setIfInBounds_toArray, List.set_cons_zero, List.set_cons_succ, i64_w, i32_w]
                  rfl
                refine pure_ (i := 6) (N := some 9) (v := ?_) (a' := ?_) #[true, true, false, false, false, true, true, false, false, false, false, false, false, false, false, false, false, false, false, false, false, false, false, false] rfl rfl (any_of HT_.out (by kernel_rfl)) (fun _ _ _ h => h) (Or.inl ⟨by rfl, ?_⟩) ?_ ?_
                rotate_left
                · intro w'
                  go_simp
                  with_reducible rfl
                rotate_left
                · simp only [Act.put, List.setIfInBounds_toArray, List.set_cons_zero, List.set_cons_succ, i64_w, i32_w]
                  rfl
                refine pure_ (i := 11) (N := some 14) (v := ?_) (a' := ?_) #[true, true, false, false, false, true, true, false, false, false, false, true, false, false, false, false, false, false, false, false, false, false, false, false] rfl rfl (any_of HT_.out (by kernel_rfl)) (fun _ _ _ h => h) (Or.inl ⟨by rfl, ?_⟩) ?_ ?_
                rotate_left
                · intro w'
                  go_simp
                  with_reducible rfl
                rotate_left
                · simp only [Act.put, List.setIfInBounds_toArray, List.set_cons_zero, List.set_cons_succ, i64_w, i32_w]
                  rfl
                refine pure_ (i := 12) (N := some 15) (v := ?_) (a' := ?_) #[true, true, false, false, false, true, true, false, false, false, false, true, true, false, false, false, false, false, false, false, false, false, false, false] rfl rfl (any_of HT_.out (by kernel_rfl)) (fun _ _ _ h => h) (Or.inl ⟨by rfl, ?_⟩) ?_ ?_
                rotate_left
                · intro w'
                  go_simp
                  with_reducible rfl
                rotate_left
                · simp only [Act.put, List.setIfInBounds_toArray, List.set_cons_zero, List.set_cons_succ, i64_w, i32_w]
                  rfl
                refine pure_ (i := 17) (N := some 20) (v := ?_) (a' := ?_) #[true, true, false, false, false, true, true, false, false, false, false, true, true, false, false, false, false, true, false, false, false, false, false, false] rfl rfl (any_of HT_.out (by kernel_rfl)) (fun _ _ _ h => h) (Or.inl ⟨by rfl, ?_⟩) ?_ ?_
                rotate_left
                · intro w'
                  go_simp
                  with_reducible rfl
                rotate_left
                · simp only [Act.put, List.setIfInBounds_toArray, List.set_cons_zero, List.set_cons_succ, i64_w, i32_w]
                  rfl
                refine pure_ (i := 18) (N := some 21) (v := ?_) (a' := ?_) #[true, true, false, false, false, true, true, false, false, false, false, true, true, false, false, false, false, true, true, false, false, false, false, false] rfl rfl (any_of HT_.out (by kernel_rfl)) (fun _ _ _ h => h) (Or.inl ⟨by rfl, ?_⟩) ?_ ?_
                rotate_left
                · intro w'
                  go_simp
                  with_reducible rfl
                rotate_left
                · simp only [Act.put, List.setIfInBounds_toArray, List.set_cons_zero, List.set_cons_succ, i64_w, i32_w]
                  rfl
                refine take_ (i := 2) (N := some 5) (v := ?_) (a' := ?_) #[true, true, true, false, false, true, true, false, false, false, false, true, true, false, false, false, false, true, true, false, false, false, false, false] rfl rfl (take_ofW HT_.out HW_.out (by kernel_rfl)) (fun _ _ _ h => h) (Or.inl ⟨by rfl, ?_⟩) hHeld ?_ ?_
                rotate_left
                · rintro w' ⟨s0, s1, s2, s3⟩
                  go_simp
                  with_reducible rfl
                rotate_left
                · simp only [Act.put, List.setIfInBounds_toArray, List.set_cons_zero, List.set_cons_succ, i64_w, i32_w]
                  rfl
                refine take_ (i := 7) (N := some 10) (v := ?_) (a' := ?_) #[true, true, true, false, false, true, true, true, false, false, false, true, true, false, false, false, false, true, true, false, false, false, false, false] rfl rfl (take_ofW HT_.out HW_.out (by kernel_rfl)) (fun _ _ _ h => h) (Or.inl ⟨by rfl, ?_⟩) hHeld ?_ ?_
                rotate_left
                · rintro w' ⟨s0, s1, s2, s3⟩
                  go_simp
                  with_reducible rfl
                rotate_left
                · simp only [Act.put, List.setIfInBounds_toArray, List.set_cons_zero, List.set_cons_succ, i64_w, i32_w]
                  rfl
                refine take_ (i := 13) (N := some 16) (v := ?_) (a' := ?_) #[true, true, true, false, false, true, true, true, false, false, false, true, true, true, false, false, false, true, true, false, false, false, false, false] rfl rfl (take_ofW HT_.out HW_.out (by kernel_rfl)) (fun _ _ _ h => h) (Or.inl ⟨by rfl, ?_⟩) hHeld ?_ ?_
                rotate_left
                · rintro w' ⟨s0, s1, s2, s3⟩
                  go_simp
                  with_reducible rfl
                rotate_left
                · simp only [Act.put, List.setIfInBounds_toArray, List.set_cons_zero, List.set_cons_succ, i64_w, i32_w]
                  rfl
                refine take_ (i := 19) (N := some 22) (v := ?_) (a' := ?_) #[true, true, true, false, false, true, true, true, false, false, false, true, true, true, false, false, false, true, true, true, false, false, false, false] rfl rfl (take_ofW HT_.out HW_.out (by kernel_rfl)) (fun _ _ _ h => h) (Or.inl ⟨by rfl, ?_⟩) hHeld ?_ ?_
                rotate_left
                · rintro w' ⟨s0, s1, s2, s3⟩
                  go_simp
                  with_reducible rfl
                rotate_left
                · simp only [Act.put, List.setIfInBounds_toArray, List.set_cons_zero, List.set_cons_succ, i64_w, i32_w]
                  rfl
                refine one_ (i := 3) (N := some 6) #[true, true, true, true, false, true, true, true, false, false, false, true, true, true, false, false, false, true, true, true, false, false, false, false] rfl rfl (one_of HT_.out (by kernel_rfl)) (by decide) (fun K hK => ?_)
                refine goes_ Tryd.func22 (by kernel_rfl) rfl #[.int .i64 a0_0] (by rfl) rfl rfl (by (try simp only [List.map_toArray, List.map_cons, List.map_nil]); first | done | rfl | (simp only [List.length_drop, List.length_take]; rfl)) ?_
                with_reducible refine (strconv_Itoa_22.calls a0_0 t194 _ (Env.below hE (by repeat (first | (with_reducible first | exact HB.out | apply below_alloc | apply pw_below_drewN | apply below_drew1 | refine below_set ?_ GE193.out) | exact HB.out))) A2.out).mono ?_
                rintro e w15 ⟨rfl, hb⟩
                refine ⟨_, rfl, ?_⟩
                have n0_ := Aside0.mk (blk_below (g := gb193) (o := .cells #[.int .i64 a0_0, .int .i64 a0_1, .int .i64 a0_2, .int .i64 a0_3] 46 (0, 0)) (by (with_reducible repeat (first | refine blk_drewN ?_ _ | refine blk_drew ?_ | refine blk_alloc ?_ _)); exact BK193.out) hb)
                have n1_ := Aside0.mk (below_step (by repeat (first | (with_reducible first | exact HB.out | apply below_alloc | apply pw_below_drewN | apply below_drew1 | refine below_set ?_ GE193.out) | exact HB.out)) hb)
                clear BK193
                clear HB
                have BK193 := n0_
                have HB := n1_
                clear n0_ n1_
                (try clear hb)
                (try clear hb2)
                (try clear hk)
                (try clear hi)
                refine hK.out _ _ ⟨(blk_cell BK193.out 0).trans rfl, (blk_cell BK193.out 1).trans rfl, (blk_cell BK193.out 2).trans rfl, (blk_cell BK193.out 3).trans rfl⟩ (fun hHeld => ?_)
                clear hK K
                refine norm_ (a' := ?_) ?_ ?_
                rotate_left
                · show Act.put _ (some 6) _ = _
                  simp only [Act.put, List.setIfInBounds_toArray, List.set_cons_zero, List.set_cons_succ, i64_w, i32_w]
                  rfl
                refine pure_ (i := 4) (N := some 7) (v := ?_) (a' := ?_) #[true, true, true, true, true, true, true, true, false, false, false, true, true, true, false, false, false, true, true, true, false, false, false, false] rfl rfl (any_of HT_.out (by kernel_rfl)) (fun _ _ _ h => h) (Or.inl ⟨by rfl, ?_⟩) ?_ ?_
                rotate_left
                · intro w'
                  go_simp
                  with_reducible rfl
                rotate_left
                · simp only [Act.put, List.setIfInBounds_toArray, List.set_cons_zero, List.set_cons_succ, i64_w, i32_w]
                  rfl
                refine one_ (i := 8) (N := some 11) #[true, true, true, true, true, true, true, true, true, false, false, true, true, true, false, false, false, true, true, true, false, false, false, false] rfl rfl (one_of HT_.out (by kernel_rfl)) (by decide) (fun K hK => ?_)
                refine goes_ Tryd.func22 (by kernel_rfl) rfl #[.int .i64 a0_1] (by rfl) rfl rfl (by (try simp only [List.map_toArray, List.map_cons, List.map_nil]); first | done | rfl | (simp only [List.length_drop, List.length_take]; rfl)) ?_
                with_reducible refine (strconv_Itoa_22.calls a0_1 t195 _ (Env.below hE (by repeat (first | (with_reducible first | exact HB.out | apply below_alloc | apply pw_below_drewN | apply below_drew1 | refine below_set ?_ GE193.out) | exact HB.out))) A4.out).mono ?_
                rintro e w16 ⟨rfl, hb⟩
                refine ⟨_, rfl, ?_⟩
                have n0_ := Aside0.mk (blk_below (g := gb193) (o := .cells #[.int .i64 a0_0, .int .i64 a0_1, .int .i64 a0_2, .int .i64 a0_3] 46 (0, 0)) (by (with_reducible repeat (first | refine blk_drewN ?_ _ | refine blk_drew ?_ | refine blk_alloc ?_ _)); exact BK193.out) hb)
                have n1_ := Aside0.mk (below_step (by repeat (first | (with_reducible first | exact HB.out | apply below_alloc | apply pw_below_drewN | apply below_drew1 | refine below_set ?_ GE193.out) | exact HB.out)) hb)
                clear BK193
                clear HB
                have BK193 := n0_
                have HB := n1_
                clear n0_ n1_
                (try clear hb)
                (try clear hb2)
                (try clear hk)
                (try clear hi)
                refine hK.out _ _ ⟨(blk_cell BK193.out 0).trans rfl, (blk_cell BK193.out 1).trans rfl, (blk_cell BK193.out 2).trans rfl, (blk_cell BK193.out 3).trans rfl⟩ (fun hHeld => ?_)
                clear hK K
                refine norm_ (a' := ?_) ?_ ?_
                rotate_left
                · show Act.put _ (some 11) _ = _
                  simp only [Act.put, List.setIfInBounds_toArray, List.set_cons_zero, List.set_cons_succ, i64_w, i32_w]
                  rfl
                refine pure_ (i := 9) (N := some 12) (v := ?_) (a' := ?_) #[true, true, true, true, true, true, true, true, true, true, false, true, true, true, false, false, false, true, true, true, false, false, false, false] rfl rfl (any_of HT_.out (by kernel_rfl)) (fun _ _ _ h => h) (Or.inl ⟨by rfl, ?_⟩) ?_ ?_
                rotate_left
                · intro w'
                  go_simp
                  with_reducible rfl
                rotate_left
                · simp only [Act.put, List.setIfInBounds_toArray, List.set_cons_zero, List.set_cons_succ, i64_w, i32_w]
                  rfl
                refine pure_ (i := 10) (N := some 13) (v := ?_) (a' := ?_) #[true, true, true, true, true, true, true, true, true, true, true, true, true, true, false, false, false, true, true, true, false, false, false, false] rfl rfl (any_of HT_.out (by kernel_rfl)) (fun _ _ _ h => h) (Or.inl ⟨by rfl, ?_⟩) ?_ ?_
                rotate_left
                · intro w'
                  go_simp
                  with_reducible rfl
                rotate_left
                · simp only [Act.put, List.setIfInBounds_toArray, List.set_cons_zero, List.set_cons_succ, i64_w, i32_w]
                  rfl
                refine one_ (i := 14) (N := some 17) #[true, true, true, true, true, true, true, true, true, true, true, true, true, true, true, false, false, true, true, true, false, false, false, false] rfl rfl (one_of HT_.out (by kernel_rfl)) (by decide) (fun K hK => ?_)
                refine goes_ Tryd.func22 (by kernel_rfl) rfl #[.int .i64 a0_2] (by rfl) rfl rfl (by (try simp only [List.map_toArray, List.map_cons, List.map_nil]); first | done | rfl | (simp only [List.length_drop, List.length_take]; rfl)) ?_
                with_reducible refine (strconv_Itoa_22.calls a0_2 t196 _ (Env.below hE (by repeat (first | (with_reducible first | exact HB.out | apply below_alloc | apply pw_below_drewN | apply below_drew1 | refine below_set ?_ GE193.out) | exact HB.out))) A7.out).mono ?_
                rintro e w17 ⟨rfl, hb⟩
                refine ⟨_, rfl, ?_⟩
                have n0_ := Aside0.mk (blk_below (g := gb193) (o := .cells #[.int .i64 a0_0, .int .i64 a0_1, .int .i64 a0_2, .int .i64 a0_3] 46 (0, 0)) (by (with_reducible repeat (first | refine blk_drewN ?_ _ | refine blk_drew ?_ | refine blk_alloc ?_ _)); exact BK193.out) hb)
                have n1_ := Aside0.mk (below_step (by repeat (first | (with_reducible first | exact HB.out | apply below_alloc | apply pw_below_drewN | apply below_drew1 | refine below_set ?_ GE193.out) | exact HB.out)) hb)
                clear BK193
                clear HB
                have BK193 := n0_
                have HB := n1_
                clear n0_ n1_
                (try clear hb)
                (try clear hb2)
                (try clear hk)
                (try clear hi)
                refine hK.out _ _ ⟨(blk_cell BK193.out 0).trans rfl, (blk_cell BK193.out 1).trans rfl, (blk_cell BK193.out 2).trans rfl, (blk_cell BK193.out 3).trans rfl⟩ (fun hHeld => ?_)
                clear hK K
                refine norm_ (a' := ?_) ?_ ?_
                rotate_left
                · show Act.put _ (some 17) _ = _
                  simp only [Act.put, List.setIfInBounds_toArray, List.set_cons_zero, List.set_cons_succ, i64_w, i32_w]
                  rfl
                refine pure_ (i := 15) (N := some 18) (v := ?_) (a' := ?_) #[true, true, true, true, true, true, true, true, true, true, true, true, true, true, true, true, false, true, true, true, false, false, false, false] rfl rfl (any_of HT_.out (by kernel_rfl)) (fun _ _ _ h => h) (Or.inl ⟨by rfl, ?_⟩) ?_ ?_
                rotate_left
                · intro w'
                  go_simp
                  with_reducible rfl
                rotate_left
                · simp only [Act.put, List.setIfInBounds_toArray, List.set_cons_zero, List.set_cons_succ, i64_w, i32_w]
                  rfl
                refine pure_ (i := 16) (N := some 19) (v := ?_) (a' := ?_) #[true, true, true, true, true, true, true, true, true, true, true, true, true, true, true, true, true, true, true, true, false, false, false, false] rfl rfl (any_of HT_.out (by kernel_rfl)) (fun _ _ _ h => h) (Or.inl ⟨by rfl, ?_⟩) ?_ ?_
                rotate_left
                · intro w'
                  go_simp
                  with_reducible rfl
                rotate_left
                · simp only [Act.put, List.setIfInBounds_toArray, List.set_cons_zero, List.set_cons_succ, i64_w, i32_w]
                  rfl
                refine one_ (i := 20) (N := some 23) #[true, true, true, true, true, true, true, true, true, true, true, true, true, true, true, true, true, true, true, true, true, false, false, false] rfl rfl (one_of HT_.out (by kernel_rfl)) (by decide) (fun K hK => ?_)
                refine goes_ Tryd.func22 (by kernel_rfl) rfl #[.int .i64 a0_3] (by rfl) rfl rfl (by (try simp only [List.map_toArray, List.map_cons, List.map_nil]); first | done | rfl | (simp only [List.length_drop, List.length_take]; rfl)) ?_
                with_reducible refine (strconv_Itoa_22.calls a0_3 t197 _ (Env.below hE (by repeat (first | (with_reducible first | exact HB.out | apply below_alloc | apply pw_below_drewN | apply below_drew1 | refine below_set ?_ GE193.out) | exact HB.out))) A10.out).mono ?_
                rintro e w18 ⟨rfl, hb⟩
                refine ⟨_, rfl, ?_⟩
                have n0_ := Aside0.mk (blk_below (g := gb193) (o := .cells #[.int .i64 a0_0, .int .i64 a0_1, .int .i64 a0_2, .int .i64 a0_3] 46 (0, 0)) (by (with_reducible repeat (first | refine blk_drewN ?_ _ | refine blk_drew ?_ | refine blk_alloc ?_ _)); exact BK193.out) hb)
                have n1_ := Aside0.mk (below_step (by repeat (first | (with_reducible first | exact HB.out | apply below_alloc | apply pw_below_drewN | apply below_drew1 | refine below_set ?_ GE193.out) | exact HB.out)) hb)
                clear BK193
                clear HB
                have BK193 := n0_
                have HB := n1_
                clear n0_ n1_
                (try clear hb)
                (try clear hb2)
                (try clear hk)
                (try clear hi)
                refine hK.out _ _ ⟨(blk_cell BK193.out 0).trans rfl, (blk_cell BK193.out 1).trans rfl, (blk_cell BK193.out 2).trans rfl, (blk_cell BK193.out 3).trans rfl⟩ (fun hHeld => ?_)
                clear hK K
                refine norm_ (a' := ?_) ?_ ?_
                rotate_left
                · show Act.put _ (some 23) _ = _
                  simp only [Act.put, List.setIfInBounds_toArray, List.set_cons_zero, List.set_cons_succ, i64_w, i32_w]
                  rfl
                refine pure_ (i := 21) (N := some 24) (v := ?_) (a' := ?_) #[true, true, true, true, true, true, true, true, true, true, true, true, true, true, true, true, true, true, true, true, true, true, false, false] rfl rfl (any_of HT_.out (by kernel_rfl)) (fun _ _ _ h => h) (Or.inl ⟨by rfl, ?_⟩) ?_ ?_
                rotate_left
                · intro w'
                  go_simp
                  with_reducible rfl
                rotate_left
                · simp only [Act.put, List.setIfInBounds_toArray, List.set_cons_zero, List.set_cons_succ, i64_w, i32_w]
                  rfl
                refine pure_ (i := 22) (N := some 25) (v := ?_) (a' := ?_) #[true, true, true, true, true, true, true, true, true, true, true, true, true, true, true, true, true, true, true, true, true, true, true, false] rfl rfl (any_of HT_.out (by kernel_rfl)) (fun _ _ _ h => h) (Or.inl ⟨by rfl, ?_⟩) ?_ ?_
                rotate_left
                · intro w'
                  go_simp
                  with_reducible rfl
                rotate_left
                · simp only [Act.put, List.setIfInBounds_toArray, List.set_cons_zero, List.set_cons_succ, i64_w, i32_w]
                  rfl
                refine pure_ (i := 23) (N := some 2) (v := ?_) (a' := ?_) #[true, true, true, true, true, true, true, true, true, true, true, true, true, true, true, true, true, true, true, true, true, true, true, true] rfl rfl (any_of HT_.out (by kernel_rfl)) (fun _ _ _ h => h) (Or.inl ⟨by rfl, ?_⟩) ?_ ?_
                rotate_left
                · intro w'
                  go_simp
                  with_reducible rfl
                rotate_left
                · simp only [Act.put, List.setIfInBounds_toArray, List.set_cons_zero, List.set_cons_succ, i64_w, i32_w]
                  rfl
                refine done_ (done_of HT_.out (by kernel_rfl)) ?_
                try go_wp2
                go_ret
                exact ⟨by first | rfl | (simp [errW_none, errW_some] <;> rfl) | (simp [*, errW_none, errW_some] <;> rfl), by repeat (first | (with_reducible first | exact HB.out | apply below_alloc | apply pw_below_drewN | apply below_drew1 | refine below_set ?_ GE193.out) | exact HB.out)⟩
              · rw [if_neg c12] at H
                exact absurd H (by simp)
            · rw [if_neg c11] at H
              exact absurd H (by simp)
          · rw [if_neg c9] at H
            exact absurd H (by simp)
        · rw [if_neg c8] at H
          exact absurd H (by simp)
      · rw [if_neg c6] at H
        exact absurd H (by simp)
    · rw [if_neg c5] at H
      exact absurd H (by simp)
  · rw [if_neg c3] at H
    exact absurd H (by simp)

def wigeonref02_Format.l0 : Nat → List (S46) → ByteArray → Int → Option (ByteArray × Int)
  | 0, _, _, _ => none
  | k + 1, x0, x5, x6 => if x6 < (x0.length : Int) then (if 0 ≤ x6 then ((wigeonref02_line.f ((rd_T46 x0 x6).f0.f0) ((rd_T46 x0 x6).f0.f1) ((rd_T46 x0 x6).f1.f0) ((rd_T46 x0 x6).f1.f1)).bind fun t200 => (if x5.size + t200.size ≤ 9223372036854775807 then (wigeonref02_Format.l0 k x0 (x5 ++ t200) (wrap64 (x6 + 1))) else (none))) else (none)) else (some (x5, 0))
def wigeonref02_Format.f (k : Nat) (l0 : List (S46)) : Option (ByteArray × Int) := (wigeonref02_Validate.f k l0).bind fun t198 => (if t198 = 0 then (wigeonref02_Format.l0 k l0 (⟨#[]⟩ : ByteArray) 0) else (some ((⟨#[]⟩ : ByteArray), t198)))
set_option maxHeartbeats 8000000 in
set_option maxRecDepth 100000 in
theorem wigeonref02_Format.calls (k : Nat) (A0 : Option Addr) (c0 : Nat) (l0 : List (S46)) (r1 : ByteArray) (r2 : Int) (w : World) (hE : Env w) (hr0 : Kd.C k46 w A0 l0.length l0) (hc0 : l0.length ≤ c0) (h : wigeonref02_Format.f k l0 = some (r1, r2)) :
    Calls Tryd.prog 8 #[.slice A0 l0.length c0] w fun e w' => e = .returned (.tuple #[.string r1, .int .i64 r2]) ∧ Below w.heap.size w w' := by
  have hu46 := Tryd.underlying46
  have HR0 := Aside0.mk hr0
  have HC0 := Aside0.mk hc0
  clear hr0 hc0
  have HB := Aside0.mk (Below.refl w.heap.size w)
  have H : ((wigeonref02_Validate.f k l0).bind fun t198 => (if t198 = 0 then (wigeonref02_Format.l0 k l0 (⟨#[]⟩ : ByteArray) 0) else (some ((⟨#[]⟩ : ByteArray), t198)))) = some (r1, r2) := h
  clear h
  replace H := Option.bind_eq_some_iff.mp H
  obtain ⟨t198, A20, H⟩ := H
  replace H : (if t198 = 0 then (wigeonref02_Format.l0 k l0 (⟨#[]⟩ : ByteArray) 0) else (some ((⟨#[]⟩ : ByteArray), t198))) = some (r1, r2) := H
  have A2 := Aside0.mk A20
  clear A20
  by_cases c3 : t198 = 0
  · rw [if_pos c3] at H
    have c3b0 : (t198 == 0) = true := beq_iff_eq.mpr c3
    have c3b1 : (t198 != 0) = false := bne_eq_false_iff_eq.mpr c3
    clear c3
    have H' := Aside0.mk H
    clear H
    go_enter Tryd.func8, Tryd.ntmps8
    go_wp2_with (first | ((with_reducible refine gate_callee (f := 24) rfl ?_); refine goesL_ (some 8) rfl rfl Tryd.func24 (by kernel_rfl) rfl #[.slice A0 l0.length c0] rfl (by (try simp only [List.map_toArray, List.map_cons, List.map_nil]); first | done | rfl | (simp only [List.length_drop, List.length_take]; rfl)) ?_; (with_reducible refine (wigeonref02_Validate.calls k _ _ l0 t198 _ ?side1 ?side2 A2.out).mono ?_); (case side1 => repeat (first | exact HR0.out | (with_reducible refine Kd.C_alloc ?_ _) | (with_reducible refine Kd.C_drewN ?_ _) | (with_reducible refine Kd.C_drew ?_))); (case side2 => exact HC0.out); rintro e w4 ⟨rfl, hb⟩; refine ⟨_, rfl, ?_⟩; have n0_ := Aside0.mk (below_step (by repeat (first | (with_reducible first | exact HB.out | apply below_alloc | apply pw_below_drewN | apply below_drew1) | exact HB.out)) hb); clear HB; have HB := n0_; clear n0_; (try clear hb); (try clear hb2); (try clear hk); (try clear hi)))
    go_loopg [5, 6] k (fun kq v5 v6 w' => ∃ (x5_1 : ByteArray) (x6_1 : Int), v5 = .string x5_1 ∧ v6 = .int .i64 x6_1 ∧ Aside0 (wigeonref02_Format.l0 kq l0 x5_1 x6_1 = some (r1, r2)) ∧ Aside0 (kq ≤ k) ∧ Aside0 (Below w.heap.size w w'))
    case atStart => exact ⟨((⟨#[]⟩ : ByteArray)), (0), (by first | rfl | (simp; done) | (simp [*]; done)), (by first | rfl | (simp; done) | (simp [*]; done)), H', ⟨Nat.le_refl _⟩, ⟨by repeat (first | (with_reducible first | exact HB.out | apply below_alloc | apply pw_below_drewN | apply below_drew1) | exact HB.out)⟩⟩
    case round =>
      clear H'
      try clear c2
      try clear p2
      try clear c3
      try clear c3b0
      try clear c3b1
      obtain ⟨x5_1, x6_1, rfl, rfl, HA, HK1, HB⟩ := hrel
      cases gk with
      | zero => exact absurd HA.out (by simp [wigeonref02_Format.l0])
      | succ k1 =>
        have H := HA.out
        clear HA
        simp only [wigeonref02_Format.l0] at H
        by_cases c5 : x6_1 < (l0.length : Int)
        · rw [if_pos c5] at H
          have c5b0 : decide (x6_1 < (l0.length : Int)) = true := decide_eq_true c5
          clear c5
          by_cases c6 : 0 ≤ x6_1
          · rw [if_pos c6] at H
            have c6b0 : decide (0 ≤ x6_1) = true := decide_eq_true c6
            clear c6
            replace H := Option.bind_eq_some_iff.mp H
            obtain ⟨t200, A70, H⟩ := H
            replace H : (if x5_1.size + t200.size ≤ 9223372036854775807 then (wigeonref02_Format.l0 k1 l0 (x5_1 ++ t200) (wrap64 (x6_1 + 1))) else (none)) = some (r1, r2) := H
            have A7 := Aside0.mk A70
            clear A70
            by_cases c8 : x5_1.size + t200.size ≤ 9223372036854775807
            · rw [if_pos c8] at H
              have c8b0 := eq_true c8
              have c8b1 : decide (x5_1.size + t200.size ≤ 9223372036854775807) = true := decide_eq_true c8
              try have c8b2 : (9223372036854775807 < x5_1.size + t200.size) = False := eq_false (Nat.not_lt.2 c8)
              have H' := Aside0.mk H
              clear H
              have p199 : 0 ≤ (x6_1 : Int) := of_decide_eq_true (by first | (with_reducible assumption) | assumption)
              have q199 : x6_1 < (l0.length : Int) := of_decide_eq_true (by first | (with_reducible assumption) | assumption)
              obtain ⟨ad199, e199, hx199_0, hx199_1, hx199_2, hx199_3⟩ := at_T46 HR0.out x6_1 p199 q199
              cases e199
              replace hx199_0 := (HB.out.cell (World.block_lt_of_cell? w _ hx199_0)).trans hx199_0
              replace hx199_1 := (HB.out.cell (World.block_lt_of_cell? w _ hx199_1)).trans hx199_1
              replace hx199_2 := (HB.out.cell (World.block_lt_of_cell? w _ hx199_2)).trans hx199_2
              replace hx199_3 := (HB.out.cell (World.block_lt_of_cell? w _ hx199_3)).trans hx199_3
              replace p199 := eq_true p199
              replace q199 := eq_true q199
              go_wp2_with (first | ((with_reducible refine gate_callee (f := 25) rfl ?_); refine goesL_ (some 23) rfl rfl Tryd.func25 (by kernel_rfl) rfl #[.agg #[.int .i64 ((rd_T46 l0 x6_1).f0.f0), .int .i64 ((rd_T46 l0 x6_1).f0.f1), .int .i64 ((rd_T46 l0 x6_1).f1.f0), .int .i64 ((rd_T46 l0 x6_1).f1.f1)]] rfl (by (try simp only [List.map_toArray, List.map_cons, List.map_nil]); first | done | rfl | (simp only [List.length_drop, List.length_take]; rfl)) ?_; (with_reducible refine (wigeonref02_line.calls ((rd_T46 l0 x6_1).f0.f0) ((rd_T46 l0 x6_1).f0.f1) ((rd_T46 l0 x6_1).f1.f0) ((rd_T46 l0 x6_1).f1.f1) t200 _ (Env.below hE (by repeat (first | (with_reducible first | exact HB.out | apply below_alloc | apply pw_below_drewN | apply below_drew1) | exact HB.out))) A7.out).mono ?_); rintro e w9 ⟨rfl, hb⟩; refine ⟨_, rfl, ?_⟩; have n0_ := Aside0.mk (below_step (by repeat (first | (with_reducible first | exact HB.out | apply below_alloc | apply pw_below_drewN | apply below_drew1) | exact HB.out)) hb); clear HB; have HB := n0_; clear n0_; (try clear hb); (try clear hb2); (try clear hk); (try clear hi)))
              go_roundg k1
              case measure => have := HK1.out; omega
              case rel => exact ⟨(x5_1 ++ t200), (wrap64 (x6_1 + 1)), (by first | rfl | (simp; done) | (simp [*]; done)), (by first | rfl | (simp; done) | (simp [*]; done)), H', ⟨by have := HK1.out; omega⟩, ⟨by repeat (first | (with_reducible first | exact HB.out | apply below_alloc | apply pw_below_drewN | apply below_drew1) | exact HB.out)⟩⟩
            · rw [if_neg c8] at H
              exact absurd H (by simp)
          · rw [if_neg c6] at H
            exact absurd H (by simp)
        · rw [if_neg c5] at H
          have c5b0 : decide (x6_1 < (l0.length : Int)) = false := decide_eq_false c5
          clear c5
          simp only [Option.some.injEq, Prod.mk.injEq] at H
          obtain ⟨rfl, rfl⟩ := H
          go_wp2
          go_ret2
          exact ⟨by first | rfl | (simp [errW_none, errW_some] <;> rfl) | (simp [*, errW_none, errW_some] <;> rfl), by repeat (first | (with_reducible first | exact HB.out | apply below_alloc | apply pw_below_drewN | apply below_drew1) | exact HB.out)⟩
  · rw [if_neg c3] at H
    have c3b0 : (t198 == 0) = false := beq_eq_false_iff_ne.mpr c3
    have c3b1 : (t198 != 0) = true := bne_iff_ne.mpr c3
    simp only [Option.some.injEq, Prod.mk.injEq] at H
    obtain ⟨rfl, rfl⟩ := H
    go_enter Tryd.func8, Tryd.ntmps8
    go_wp2_with (first | ((with_reducible refine gate_callee (f := 24) rfl ?_); refine goesL_ (some 8) rfl rfl Tryd.func24 (by kernel_rfl) rfl #[.slice A0 l0.length c0] rfl (by (try simp only [List.map_toArray, List.map_cons, List.map_nil]); first | done | rfl | (simp only [List.length_drop, List.length_take]; rfl)) ?_; (with_reducible refine (wigeonref02_Validate.calls k _ _ l0 t198 _ ?side1 ?side2 A2.out).mono ?_); (case side1 => repeat (first | exact HR0.out | (with_reducible refine Kd.C_alloc ?_ _) | (with_reducible refine Kd.C_drewN ?_ _) | (with_reducible refine Kd.C_drew ?_))); (case side2 => exact HC0.out); rintro e w10 ⟨rfl, hb⟩; refine ⟨_, rfl, ?_⟩; have n0_ := Aside0.mk (below_step (by repeat (first | (with_reducible first | exact HB.out | apply below_alloc | apply pw_below_drewN | apply below_drew1) | exact HB.out)) hb); clear HB; have HB := n0_; clear n0_; (try clear hb); (try clear hb2); (try clear hk); (try clear hi)))
    go_ret2
    exact ⟨by first | rfl | (simp [errW_none, errW_some] <;> rfl) | (simp [*, errW_none, errW_some] <;> rfl), by repeat (first | (with_reducible first | exact HB.out | apply below_alloc | apply pw_below_drewN | apply below_drew1) | exact HB.out)⟩

end Go.Proofs.YtjiheojjfnfmaaaDoor.ST

