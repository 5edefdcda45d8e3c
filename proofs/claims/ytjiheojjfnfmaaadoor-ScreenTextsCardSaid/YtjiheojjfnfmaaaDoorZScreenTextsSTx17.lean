/- Of the text STx17, what the row of ScreenTexts reaches. -/
import Derived.Test.YtjiheojjfnfmaaaDoorZScreenTextsSTx16
import Derived.Test.YtjiheojjfnfmaaaDoorZScreenTextsSTx0
import Derived.Test.YtjiheojjfnfmaaaDoorZScreenTextsSTx8
import Derived.Test.YtjiheojjfnfmaaaDoorZScreenTextsSTx15
namespace Go.Proofs.YtjiheojjfnfmaaaDoor.ST
open Go.RowKit Go.Proofs.YtjiheojjfnfmaaaDoorW.PrintWords Go.Proofs.YtjiheojjfnfmaaaDoorW.PrintLast Go.Proofs.YtjiheojjfnfmaaaDoorW.PrintMore
attribute [local go_sem] max2_int min2_int max_two min_two max_three min_three max_four min_four   -- for this text's walks alone
set_option linter.unusedVariables false
set_option linter.unusedSimpArgs false

def screen_Format.l0 : Nat → ByteArray → List (S46) → Int → Int → Option (ByteArray × Int)
  | 0, _, _, _, _ => none
  | k + 1, x5, x13, x14, x15 => if x15 < x14 then (if 0 ≤ x15 then (if x15 < (x13.length : Int) then ((strconv_Itoa_22.f ((rd_T46 x13 x15).f0.f0)).bind fun t180 => (if t180.size + 1 ≤ 9223372036854775807 then ((strconv_Itoa_22.f ((rd_T46 x13 x15).f0.f1)).bind fun t181 => (if (t180 ++ (⟨#[32]⟩ : ByteArray)).size + t181.size ≤ 9223372036854775807 then (if ((t180 ++ (⟨#[32]⟩ : ByteArray)) ++ t181).size + 1 ≤ 9223372036854775807 then ((strconv_Itoa_22.f ((rd_T46 x13 x15).f1.f0)).bind fun t182 => (if (((t180 ++ (⟨#[32]⟩ : ByteArray)) ++ t181) ++ (⟨#[32]⟩ : ByteArray)).size + t182.size ≤ 9223372036854775807 then (if ((((t180 ++ (⟨#[32]⟩ : ByteArray)) ++ t181) ++ (⟨#[32]⟩ : ByteArray)) ++ t182).size + 1 ≤ 9223372036854775807 then ((strconv_Itoa_22.f ((rd_T46 x13 x15).f1.f1)).bind fun t183 => (if (((((t180 ++ (⟨#[32]⟩ : ByteArray)) ++ t181) ++ (⟨#[32]⟩ : ByteArray)) ++ t182) ++ (⟨#[32]⟩ : ByteArray)).size + t183.size ≤ 9223372036854775807 then (if ((((((t180 ++ (⟨#[32]⟩ : ByteArray)) ++ t181) ++ (⟨#[32]⟩ : ByteArray)) ++ t182) ++ (⟨#[32]⟩ : ByteArray)) ++ t183).size + 1 ≤ 9223372036854775807 then (if x5.size + (((((((t180 ++ (⟨#[32]⟩ : ByteArray)) ++ t181) ++ (⟨#[32]⟩ : ByteArray)) ++ t182) ++ (⟨#[32]⟩ : ByteArray)) ++ t183) ++ (⟨#[10]⟩ : ByteArray)).size ≤ 140737488355328 then (screen_Format.l0 k (x5 ++ (((((((t180 ++ (⟨#[32]⟩ : ByteArray)) ++ t181) ++ (⟨#[32]⟩ : ByteArray)) ++ t182) ++ (⟨#[32]⟩ : ByteArray)) ++ t183) ++ (⟨#[10]⟩ : ByteArray))) x13 x14 (wrap64 (x15 + 1))) else (none)) else (none)) else (none))) else (none)) else (none))) else (none)) else (none))) else (none))) else (none)) else (none)) else (some (x5, 0))
def screen_Format.f (k : Nat) (l0 : List (S46)) : Option (ByteArray × Int) := (screen_Validate.f k l0).bind fun t177 => (if t177 = 0 then (screen_Format.l0 k (⟨#[]⟩ : ByteArray) l0 (l0.length : Int) 0) else (some ((⟨#[]⟩ : ByteArray), t177)))
def screen_Format.T8 : Bool × List (List Nat × List Nat) := (true, [([], []), ([0], [0]), ([1], [1]), ([2], [2]), ([3], [3]), ([], []), ([5], [5]), ([6], [6]), ([7, 3], [7]), ([4, 8], [4, 8]), ([9], [9]), ([], []), ([11], [11]), ([12], [12]), ([13, 8], [13]), ([10, 14], [10, 14]), ([15], [15]), ([], []), ([17], [17]), ([18], [18]), ([19, 14], [19]), ([16, 20], [16, 20]), ([21], [21]), ([22, 20], [22])])
def screen_Format.B8 : List Nat := [0, 1, 3, 7, 15, 0, 32, 96, 239, 511, 1023, 0, 2048, 6144, 14831, 32767, 65535, 0, 131072, 393216, 948719, 2097151, 4194303, 8388607]
theorem screen_Format.tab8 : rtab .any (opsOf Tryd.f7 8) = screen_Format.T8 := by kernel_rfl
theorem screen_Format.bits8 : waitsOk screen_Format.T8.2 screen_Format.B8 = true := by kernel_rfl
set_option maxHeartbeats 8000000 in
set_option maxRecDepth 100000 in
theorem screen_Format.calls (k : Nat) (A0 : Option Addr) (c0 : Nat) (l0 : List (S46)) (r1 : ByteArray) (r2 : Int) (w : World) (hE : Env w) (hr0 : Kd.C k46 w A0 l0.length l0) (hc0 : l0.length ≤ c0) (h : screen_Format.f k l0 = some (r1, r2)) :
    Calls Tryd.prog 7 #[.slice A0 l0.length c0] w fun e w' => e = .returned (.tuple #[.string r1, .int .i64 r2]) ∧ Below w.heap.size w w' := by
  have hu46 := Tryd.underlying46
  have HR0 := Aside0.mk hr0
  have HC0 := Aside0.mk hc0
  clear hr0 hc0
  have HB := Aside0.mk (Below.refl w.heap.size w)
  have H : ((screen_Validate.f k l0).bind fun t177 => (if t177 = 0 then (screen_Format.l0 k (⟨#[]⟩ : ByteArray) l0 (l0.length : Int) 0) else (some ((⟨#[]⟩ : ByteArray), t177)))) = some (r1, r2) := h
  clear h
  replace H := Option.bind_eq_some_iff.mp H
  obtain ⟨t177, A20, H⟩ := H
  replace H : (if t177 = 0 then (screen_Format.l0 k (⟨#[]⟩ : ByteArray) l0 (l0.length : Int) 0) else (some ((⟨#[]⟩ : ByteArray), t177))) = some (r1, r2) := H
  have A2 := Aside0.mk A20
  clear A20
  by_cases c3 : t177 = 0
  · rw [if_pos c3] at H
    have c3b0 : (t177 == 0) = true := beq_iff_eq.mpr c3
    have c3b1 : (t177 != 0) = false := bne_eq_false_iff_eq.mpr c3
    clear c3
    have H' := Aside0.mk H
    clear H
    go_enter Tryd.func7, Tryd.ntmps7
    go_wp2_with (first | ((with_reducible refine gate_callee (f := 20) rfl ?_); refine goesL_ (some 9) rfl rfl Tryd.func20 (by kernel_rfl) rfl #[.slice A0 l0.length c0] rfl (by (try simp only [List.map_toArray, List.map_cons, List.map_nil]); first | done | rfl | (simp only [List.length_drop, List.length_take]; rfl)) ?_; (with_reducible refine (screen_Validate.calls k _ _ l0 t177 _ ?side1 ?side2 A2.out).mono ?_); (case side1 => repeat (first | exact HR0.out | (with_reducible refine Kd.C_alloc ?_ _) | (with_reducible refine Kd.C_drewN ?_ _) | (with_reducible refine Kd.C_drew ?_))); (case side2 => exact HC0.out); rintro e w4 ⟨rfl, hb⟩; refine ⟨_, rfl, ?_⟩; have n0_ := Aside0.mk (below_step (by repeat (first | (with_reducible first | exact HB.out | apply below_alloc | apply pw_below_drewN | apply below_drew1) | exact HB.out)) hb); clear HB; have HB := n0_; clear n0_; (try clear hb); (try clear hb2); (try clear hk); (try clear hi)) | ((with_reducible refine gate_dst (N := 5) rfl ?_); refine box_event ?hg (N := 5) ?hd (cs := #[.pointer none, .slice none 0 0]) (t := 53) ?hr ?_; (case hd => rfl); (case hg => rfl); (case hr => first | (go_simp; done) | (go_simp; rfl)); intro gbB hgB wB hboxB hbB; have n1_ := Aside0.mk (below_step (by repeat (first | (with_reducible first | exact HB.out | apply below_alloc | apply pw_below_drewN | apply below_drew1) | exact HB.out)) hbB); have GB := Aside0.mk (show w.heap.size ≤ gbB from (by rw [hgB]; exact (below_size (by repeat (first | (with_reducible first | exact HB.out | apply below_alloc | apply pw_below_drewN | apply below_drew1) | exact HB.out))))); have HU := Aside0.mk (isB_new hboxB); clear HB hboxB hbB hgB; have HB := n1_; clear n1_))
    go_loopg [15] k (fun kq v15 w' => ∃ (x5_1 : ByteArray) (x15_1 : Int), v15 = .int .i64 x15_1 ∧ Aside0 (screen_Format.l0 kq x5_1 l0 (l0.length : Int) x15_1 = some (r1, r2)) ∧ Aside0 (kq ≤ k) ∧ Aside0 (IsB gbB x5_1 w') ∧ Aside0 (Below w.heap.size w w'))
    case atStart => exact ⟨((⟨#[]⟩ : ByteArray)), (0), (by first | rfl | (simp; done) | (simp [*]; done)), H', ⟨Nat.le_refl _⟩, ⟨by first | exact HU.out | (exact isB_below HU.out (by repeat (first | (with_reducible first | exact Below.refl _ _ | apply below_alloc | apply pw_below_drewN | apply below_drew1) | exact Below.refl _ _)))⟩, ⟨by repeat (first | (with_reducible first | exact HB.out | apply below_alloc | apply pw_below_drewN | apply below_drew1) | exact HB.out)⟩⟩
    case round =>
      clear H'
      try clear c2
      try clear p2
      try clear c3
      try clear c3b0
      try clear c3b1
      try clear HU
      obtain ⟨x5_1, x15_1, rfl, HA, HK1, HU, HB⟩ := hrel
      cases gk with
      | zero => exact absurd HA.out (by simp [screen_Format.l0])
      | succ k1 =>
        have H := HA.out
        clear HA
        simp only [screen_Format.l0] at H
        by_cases c5 : x15_1 < (l0.length : Int)
        · rw [if_pos c5] at H
          have c5b0 : decide (x15_1 < (l0.length : Int)) = true := decide_eq_true c5
          clear c5
          by_cases c6 : 0 ≤ x15_1
          · rw [if_pos c6] at H
            have c6b0 : decide (0 ≤ x15_1) = true := decide_eq_true c6
            clear c6
            by_cases c7 : x15_1 < (l0.length : Int)
            · rw [if_pos c7] at H
              have c7b0 : decide (x15_1 < (l0.length : Int)) = true := decide_eq_true c7
              clear c7
              replace H := Option.bind_eq_some_iff.mp H
              obtain ⟨t180, A80, H⟩ := H
              replace H : (if t180.size + 1 ≤ 9223372036854775807 then ((strconv_Itoa_22.f ((rd_T46 l0 x15_1).f0.f1)).bind fun t181 => (if (t180 ++ (⟨#[32]⟩ : ByteArray)).size + t181.size ≤ 9223372036854775807 then (if ((t180 ++ (⟨#[32]⟩ : ByteArray)) ++ t181).size + 1 ≤ 9223372036854775807 then ((strconv_Itoa_22.f ((rd_T46 l0 x15_1).f1.f0)).bind fun t182 => (if (((t180 ++ (⟨#[32]⟩ : ByteArray)) ++ t181) ++ (⟨#[32]⟩ : ByteArray)).size + t182.size ≤ 9223372036854775807 then (if ((((t180 ++ (⟨#[32]⟩ : ByteArray)) ++ t181) ++ (⟨#[32]⟩ : ByteArray)) ++ t182).size + 1 ≤ 9223372036854775807 then ((strconv_Itoa_22.f ((rd_T46 l0 x15_1).f1.f1)).bind fun t183 => (if (((((t180 ++ (⟨#[32]⟩ : ByteArray)) ++ t181) ++ (⟨#[32]⟩ : ByteArray)) ++ t182) ++ (⟨#[32]⟩ : ByteArray)).size + t183.size ≤ 9223372036854775807 then (if ((((((t180 ++ (⟨#[32]⟩ : ByteArray)) ++ t181) ++ (⟨#[32]⟩ : ByteArray)) ++ t182) ++ (⟨#[32]⟩ : ByteArray)) ++ t183).size + 1 ≤ 9223372036854775807 then (if x5_1.size + (((((((t180 ++ (⟨#[32]⟩ : ByteArray)) ++ t181) ++ (⟨#[32]⟩ : ByteArray)) ++ t182) ++ (⟨#[32]⟩ : ByteArray)) ++ t183) ++ (⟨#[10]⟩ : ByteArray)).size ≤ 140737488355328 then (screen_Format.l0 k1 (x5_1 ++ (((((((t180 ++ (⟨#[32]⟩ : ByteArray)) ++ t181) ++ (⟨#[32]⟩ : ByteArray)) ++ t182) ++ (⟨#[32]⟩ : ByteArray)) ++ t183) ++ (⟨#[10]⟩ : ByteArray))) l0 (l0.length : Int) (wrap64 (x15_1 + 1))) else (none)) else (none)) else (none))) else (none)) else (none))) else (none)) else (none))) else (none)) = some (r1, r2) := H
              have A8 := Aside0.mk A80
              clear A80
              by_cases c9 : t180.size + 1 ≤ 9223372036854775807
              · rw [if_pos c9] at H
                have c9b0 := eq_true c9
                have c9b1 : decide (t180.size + 1 ≤ 9223372036854775807) = true := decide_eq_true c9
                try have c9b2 : (9223372036854775807 < t180.size + 1) = False := eq_false (Nat.not_lt.2 c9)
                replace H := Option.bind_eq_some_iff.mp H
                obtain ⟨t181, A100, H⟩ := H
                replace H : (if (t180 ++ (⟨#[32]⟩ : ByteArray)).size + t181.size ≤ 9223372036854775807 then (if ((t180 ++ (⟨#[32]⟩ : ByteArray)) ++ t181).size + 1 ≤ 9223372036854775807 then ((strconv_Itoa_22.f ((rd_T46 l0 x15_1).f1.f0)).bind fun t182 => (if (((t180 ++ (⟨#[32]⟩ : ByteArray)) ++ t181) ++ (⟨#[32]⟩ : ByteArray)).size + t182.size ≤ 9223372036854775807 then (if ((((t180 ++ (⟨#[32]⟩ : ByteArray)) ++ t181) ++ (⟨#[32]⟩ : ByteArray)) ++ t182).size + 1 ≤ 9223372036854775807 then ((strconv_Itoa_22.f ((rd_T46 l0 x15_1).f1.f1)).bind fun t183 => (if (((((t180 ++ (⟨#[32]⟩ : ByteArray)) ++ t181) ++ (⟨#[32]⟩ : ByteArray)) ++ t182) ++ (⟨#[32]⟩ : ByteArray)).size + t183.size ≤ 9223372036854775807 then (if ((((((t180 ++ (⟨#[32]⟩ : ByteArray)) ++ t181) ++ (⟨#[32]⟩ : ByteArray)) ++ t182) ++ (⟨#[32]⟩ : ByteArray)) ++ t183).size + 1 ≤ 9223372036854775807 then (if x5_1.size + (((((((t180 ++ (⟨#[32]⟩ : ByteArray)) ++ t181) ++ (⟨#[32]⟩ : ByteArray)) ++ t182) ++ (⟨#[32]⟩ : ByteArray)) ++ t183) ++ (⟨#[10]⟩ : ByteArray)).size ≤ 140737488355328 then (screen_Format.l0 k1 (x5_1 ++ (((((((t180 ++ (⟨#[32]⟩ : ByteArray)) ++ t181) ++ (⟨#[32]⟩ : ByteArray)) ++ t182) ++ (⟨#[32]⟩ : ByteArray)) ++ t183) ++ (⟨#[10]⟩ : ByteArray))) l0 (l0.length : Int) (wrap64 (x15_1 + 1))) else (none)) else (none)) else (none))) else (none)) else (none))) else (none)) else (none)) = some (r1, r2) := H
                have A10 := Aside0.mk A100
                clear A100
                by_cases c11 : (t180 ++ (⟨#[32]⟩ : ByteArray)).size + t181.size ≤ 9223372036854775807
                · rw [if_pos c11] at H
                  have c11b0 := eq_true c11
                  have c11b1 : decide ((t180 ++ (⟨#[32]⟩ : ByteArray)).size + t181.size ≤ 9223372036854775807) = true := decide_eq_true c11
                  try have c11b2 : (9223372036854775807 < (t180 ++ (⟨#[32]⟩ : ByteArray)).size + t181.size) = False := eq_false (Nat.not_lt.2 c11)
                  try have c11b3 : (9223372036854775807 < t180.size + 1 + t181.size) = False := eq_false (by have z_ := c11; simp only [ByteArray.size_append, show (⟨#[32]⟩ : ByteArray).size = 1 from rfl] at z_; omega)
                  by_cases c12 : ((t180 ++ (⟨#[32]⟩ : ByteArray)) ++ t181).size + 1 ≤ 9223372036854775807
                  · rw [if_pos c12] at H
                    have c12b0 := eq_true c12
                    have c12b1 : decide (((t180 ++ (⟨#[32]⟩ : ByteArray)) ++ t181).size + 1 ≤ 9223372036854775807) = true := decide_eq_true c12
                    try have c12b2 : (9223372036854775807 < ((t180 ++ (⟨#[32]⟩ : ByteArray)) ++ t181).size + 1) = False := eq_false (Nat.not_lt.2 c12)
                    try have c12b3 : (9223372036854775807 < t180.size + 1 + t181.size + 1) = False := eq_false (by have z_ := c12; simp only [ByteArray.size_append, show (⟨#[32]⟩ : ByteArray).size = 1 from rfl] at z_; omega)
                    replace H := Option.bind_eq_some_iff.mp H
                    obtain ⟨t182, A130, H⟩ := H
                    replace H : (if (((t180 ++ (⟨#[32]⟩ : ByteArray)) ++ t181) ++ (⟨#[32]⟩ : ByteArray)).size + t182.size ≤ 9223372036854775807 then (if ((((t180 ++ (⟨#[32]⟩ : ByteArray)) ++ t181) ++ (⟨#[32]⟩ : ByteArray)) ++ t182).size + 1 ≤ 9223372036854775807 then ((strconv_Itoa_22.f ((rd_T46 l0 x15_1).f1.f1)).bind fun t183 => (if (((((t180 ++ (⟨#[32]⟩ : ByteArray)) ++ t181) ++ (⟨#[32]⟩ : ByteArray)) ++ t182) ++ (⟨#[32]⟩ : ByteArray)).size + t183.size ≤ 9223372036854775807 then (if ((((((t180 ++ (⟨#[32]⟩ : ByteArray)) ++ t181) ++ (⟨#[32]⟩ : ByteArray)) ++ t182) ++ (⟨#[32]⟩ : ByteArray)) ++ t183).size + 1 ≤ 9223372036854775807 then (if x5_1.size + (((((((t180 ++ (⟨#[32]⟩ : ByteArray)) ++ t181) ++ (⟨#[32]⟩ : ByteArray)) ++ t182) ++ (⟨#[32]⟩ : ByteArray)) ++ t183) ++ (⟨#[10]⟩ : ByteArray)).size ≤ 140737488355328 then (screen_Format.l0 k1 (x5_1 ++ (((((((t180 ++ (⟨#[32]⟩ : ByteArray)) ++ t181) ++ (⟨#[32]⟩ : ByteArray)) ++ t182) ++ (⟨#[32]⟩ : ByteArray)) ++ t183) ++ (⟨#[10]⟩ : ByteArray))) l0 (l0.length : Int) (wrap64 (x15_1 + 1))) else (none)) else (none)) else (none))) else (none)) else (none)) = some (r1, r2) := H
                    have A13 := Aside0.mk A130
                    clear A130
                    by_cases c14 : (((t180 ++ (⟨#[32]⟩ : ByteArray)) ++ t181) ++ (⟨#[32]⟩ : ByteArray)).size + t182.size ≤ 9223372036854775807
                    · rw [if_pos c14] at H
                      have c14b0 := eq_true c14
                      have c14b1 : decide ((((t180 ++ (⟨#[32]⟩ : ByteArray)) ++ t181) ++ (⟨#[32]⟩ : ByteArray)).size + t182.size ≤ 9223372036854775807) = true := decide_eq_true c14
                      try have c14b2 : (9223372036854775807 < (((t180 ++ (⟨#[32]⟩ : ByteArray)) ++ t181) ++ (⟨#[32]⟩ : ByteArray)).size + t182.size) = False := eq_false (Nat.not_lt.2 c14)
                      try have c14b3 : (9223372036854775807 < t180.size + 1 + t181.size + 1 + t182.size) = False := eq_false (by have z_ := c14; simp only [ByteArray.size_append, show (⟨#[32]⟩ : ByteArray).size = 1 from rfl] at z_; omega)
                      by_cases c15 : ((((t180 ++ (⟨#[32]⟩ : ByteArray)) ++ t181) ++ (⟨#[32]⟩ : ByteArray)) ++ t182).size + 1 ≤ 9223372036854775807
                      · rw [if_pos c15] at H
                        have c15b0 := eq_true c15
                        have c15b1 : decide (((((t180 ++ (⟨#[32]⟩ : ByteArray)) ++ t181) ++ (⟨#[32]⟩ : ByteArray)) ++ t182).size + 1 ≤ 9223372036854775807) = true := decide_eq_true c15
                        try have c15b2 : (9223372036854775807 < ((((t180 ++ (⟨#[32]⟩ : ByteArray)) ++ t181) ++ (⟨#[32]⟩ : ByteArray)) ++ t182).size + 1) = False := eq_false (Nat.not_lt.2 c15)
                        try have c15b3 : (9223372036854775807 < t180.size + 1 + t181.size + 1 + t182.size + 1) = False := eq_false (by have z_ := c15; simp only [ByteArray.size_append, show (⟨#[32]⟩ : ByteArray).size = 1 from rfl] at z_; omega)
                        replace H := Option.bind_eq_some_iff.mp H
                        obtain ⟨t183, A160, H⟩ := H
                        replace H : (if (((((t180 ++ (⟨#[32]⟩ : ByteArray)) ++ t181) ++ (⟨#[32]⟩ : ByteArray)) ++ t182) ++ (⟨#[32]⟩ : ByteArray)).size + t183.size ≤ 9223372036854775807 then (if ((((((t180 ++ (⟨#[32]⟩ : ByteArray)) ++ t181) ++ (⟨#[32]⟩ : ByteArray)) ++ t182) ++ (⟨#[32]⟩ : ByteArray)) ++ t183).size + 1 ≤ 9223372036854775807 then (if x5_1.size + (((((((t180 ++ (⟨#[32]⟩ : ByteArray)) ++ t181) ++ (⟨#[32]⟩ : ByteArray)) ++ t182) ++ (⟨#[32]⟩ : ByteArray)) ++ t183) ++ (⟨#[10]⟩ : ByteArray)).size ≤ 140737488355328 then (screen_Format.l0 k1 (x5_1 ++ (((((((t180 ++ (⟨#[32]⟩ : ByteArray)) ++ t181) ++ (⟨#[32]⟩ : ByteArray)) ++ t182) ++ (⟨#[32]⟩ : ByteArray)) ++ t183) ++ (⟨#[10]⟩ : ByteArray))) l0 (l0.length : Int) (wrap64 (x15_1 + 1))) else (none)) else (none)) else (none)) = some (r1, r2) := H
                        have A16 := Aside0.mk A160
                        clear A160
                        by_cases c17 : (((((t180 ++ (⟨#[32]⟩ : ByteArray)) ++ t181) ++ (⟨#[32]⟩ : ByteArray)) ++ t182) ++ (⟨#[32]⟩ : ByteArray)).size + t183.size ≤ 9223372036854775807
                        · rw [if_pos c17] at H
                          have c17b0 := eq_true c17
                          have c17b1 : decide ((((((t180 ++ (⟨#[32]⟩ : ByteArray)) ++ t181) ++ (⟨#[32]⟩ : ByteArray)) ++ t182) ++ (⟨#[32]⟩ : ByteArray)).size + t183.size ≤ 9223372036854775807) = true := decide_eq_true c17
                          try have c17b2 : (9223372036854775807 < (((((t180 ++ (⟨#[32]⟩ : ByteArray)) ++ t181) ++ (⟨#[32]⟩ : ByteArray)) ++ t182) ++ (⟨#[32]⟩ : ByteArray)).size + t183.size) = False := eq_false (Nat.not_lt.2 c17)
                          try have c17b3 : (9223372036854775807 < t180.size + 1 + t181.size + 1 + t182.size + 1 + t183.size) = False := eq_false (by have z_ := c17; simp only [ByteArray.size_append, show (⟨#[32]⟩ : ByteArray).size = 1 from rfl] at z_; omega)
                          by_cases c18 : ((((((t180 ++ (⟨#[32]⟩ : ByteArray)) ++ t181) ++ (⟨#[32]⟩ : ByteArray)) ++ t182) ++ (⟨#[32]⟩ : ByteArray)) ++ t183).size + 1 ≤ 9223372036854775807
                          · rw [if_pos c18] at H
                            have c18b0 := eq_true c18
                            have c18b1 : decide (((((((t180 ++ (⟨#[32]⟩ : ByteArray)) ++ t181) ++ (⟨#[32]⟩ : ByteArray)) ++ t182) ++ (⟨#[32]⟩ : ByteArray)) ++ t183).size + 1 ≤ 9223372036854775807) = true := decide_eq_true c18
                            try have c18b2 : (9223372036854775807 < ((((((t180 ++ (⟨#[32]⟩ : ByteArray)) ++ t181) ++ (⟨#[32]⟩ : ByteArray)) ++ t182) ++ (⟨#[32]⟩ : ByteArray)) ++ t183).size + 1) = False := eq_false (Nat.not_lt.2 c18)
                            try have c18b3 : (9223372036854775807 < t180.size + 1 + t181.size + 1 + t182.size + 1 + t183.size + 1) = False := eq_false (by have z_ := c18; simp only [ByteArray.size_append, show (⟨#[32]⟩ : ByteArray).size = 1 from rfl] at z_; omega)
                            by_cases c19 : x5_1.size + (((((((t180 ++ (⟨#[32]⟩ : ByteArray)) ++ t181) ++ (⟨#[32]⟩ : ByteArray)) ++ t182) ++ (⟨#[32]⟩ : ByteArray)) ++ t183) ++ (⟨#[10]⟩ : ByteArray)).size ≤ 140737488355328
                            · rw [if_pos c19] at H
                              have c19b0 := eq_true c19
                              have LMc19 := Aside0.mk c19
                              have c19b1 : decide (x5_1.size + (((((((t180 ++ (⟨#[32]⟩ : ByteArray)) ++ t181) ++ (⟨#[32]⟩ : ByteArray)) ++ t182) ++ (⟨#[32]⟩ : ByteArray)) ++ t183) ++ (⟨#[10]⟩ : ByteArray)).size ≤ 140737488355328) = true := decide_eq_true c19
                              try have c19b2 : (9223372036854775807 < x5_1.size + (((((((t180 ++ (⟨#[32]⟩ : ByteArray)) ++ t181) ++ (⟨#[32]⟩ : ByteArray)) ++ t182) ++ (⟨#[32]⟩ : ByteArray)) ++ t183) ++ (⟨#[10]⟩ : ByteArray)).size) = False := eq_false (Nat.not_lt.2 c19)
                              have H' := Aside0.mk H
                              clear H
                              have p178 : 0 ≤ (x15_1 : Int) := of_decide_eq_true (by first | (with_reducible assumption) | assumption)
                              have q178 : x15_1 < (l0.length : Int) := of_decide_eq_true (by first | (with_reducible assumption) | assumption)
                              obtain ⟨ad178, e178, hx178_0, hx178_1, hx178_2, hx178_3⟩ := at_T46 HR0.out x15_1 p178 q178
                              cases e178
                              replace hx178_0 := (HB.out.cell (World.block_lt_of_cell? w _ hx178_0)).trans hx178_0
                              replace hx178_1 := (HB.out.cell (World.block_lt_of_cell? w _ hx178_1)).trans hx178_1
                              replace hx178_2 := (HB.out.cell (World.block_lt_of_cell? w _ hx178_2)).trans hx178_2
                              replace hx178_3 := (HB.out.cell (World.block_lt_of_cell? w _ hx178_3)).trans hx178_3
                              replace p178 := eq_true p178
                              replace q178 := eq_true q178
                              try go_wp2_with (first | ((with_reducible refine gate_dst (N := 7) rfl ?_); refine box_event ?hg (N := 7) ?hd (cs := #[.int .i64 0, .int .i64 0, .int .i64 0, .int .i64 0]) (t := 46) ?hr ?_; (case hd => rfl); (case hg => rfl); (case hr => first | (go_simp; done) | (go_simp; rfl)); intro gb179 hg w20 hbox hb; have HUb := Aside0.mk hb; have HUq := Aside0.mk (Nat.le_of_eq hg.symm); have n0_ := Aside0.mk (below_step (by repeat (first | (with_reducible first | exact HB.out | apply below_alloc | apply pw_below_drewN | apply below_drew1) | exact HB.out)) hb); have n1_ := Aside0.mk (hbox); have n2_ := Aside0.mk ((by rw [hg]; exact (below_size (by repeat (first | (with_reducible first | exact HB.out | apply below_alloc | apply pw_below_drewN | apply below_drew1) | exact HB.out))) : w.heap.size ≤ gb179)); have n3_ := Aside0.mk ((by rw [hg]; exact (below_size (by repeat (first | (with_reducible first | exact HB.out | apply below_alloc | apply pw_below_drewN | apply below_drew1) | exact HB.out))) : w.heap.size ≤ gb179)); clear HB; have HB := n0_; have BK179 := n1_; have GW179 := n2_; have GE179 := n3_; clear n0_ n1_ n2_ n3_; clear hb hbox hg; have hcz21_0 : w20.cell? ⟨gb179, 0, none⟩ = some (.int .i64 0) := (blk_cell BK179.out 0).trans rfl; have hcz21_1 : w20.cell? ⟨gb179, 1, none⟩ = some (.int .i64 0) := (blk_cell BK179.out 1).trans rfl; have hcz21_2 : w20.cell? ⟨gb179, 2, none⟩ = some (.int .i64 0) := (blk_cell BK179.out 2).trans rfl; have hcz21_3 : w20.cell? ⟨gb179, 3, none⟩ = some (.int .i64 0) := (blk_cell BK179.out 3).trans rfl; have hfz21_0 := blk_frozen BK179.out 0; have hfz21_1 := blk_frozen BK179.out 1; have hfz21_2 := blk_frozen BK179.out 2; have hfz21_3 := blk_frozen BK179.out 3))
                              have n0_ : Aside0 (((((w20.setCell ⟨gb179, 0, none⟩ (.int .i64 ((rd_T46 l0 x15_1).f0.f0))).setCell ⟨gb179, 1, none⟩ (.int .i64 ((rd_T46 l0 x15_1).f0.f1))).setCell ⟨gb179, 2, none⟩ (.int .i64 ((rd_T46 l0 x15_1).f1.f0))).setCell ⟨gb179, 3, none⟩ (.int .i64 ((rd_T46 l0 x15_1).f1.f1))).heap[gb179]? = some (.cells #[.int .i64 ((rd_T46 l0 x15_1).f0.f0), .int .i64 ((rd_T46 l0 x15_1).f0.f1), .int .i64 ((rd_T46 l0 x15_1).f1.f0), .int .i64 ((rd_T46 l0 x15_1).f1.f1)] 46 (0, 0))) := ⟨by (with_reducible repeat (first | refine blk_drewN ?_ _ | refine blk_drew ?_ | refine blk_alloc ?_ _)); refine blk_put (cs := #[.int .i64 ((rd_T46 l0 x15_1).f0.f0), .int .i64 ((rd_T46 l0 x15_1).f0.f1), .int .i64 ((rd_T46 l0 x15_1).f1.f0), .int .i64 0]) ?_ 3 _ rfl; (with_reducible repeat (first | refine blk_drewN ?_ _ | refine blk_drew ?_ | refine blk_alloc ?_ _)); refine blk_put (cs := #[.int .i64 ((rd_T46 l0 x15_1).f0.f0), .int .i64 ((rd_T46 l0 x15_1).f0.f1), .int .i64 0, .int .i64 0]) ?_ 2 _ rfl; (with_reducible repeat (first | refine blk_drewN ?_ _ | refine blk_drew ?_ | refine blk_alloc ?_ _)); refine blk_put (cs := #[.int .i64 ((rd_T46 l0 x15_1).f0.f0), .int .i64 0, .int .i64 0, .int .i64 0]) ?_ 1 _ rfl; (with_reducible repeat (first | refine blk_drewN ?_ _ | refine blk_drew ?_ | refine blk_alloc ?_ _)); refine blk_put (cs := #[.int .i64 0, .int .i64 0, .int .i64 0, .int .i64 0]) ?_ 0 _ rfl; (with_reducible repeat (first | refine blk_drewN ?_ _ | refine blk_drew ?_ | refine blk_alloc ?_ _)); exact BK179.out⟩
                              have n1_ : Aside0 (Below w.heap.size w ((((w20.setCell ⟨gb179, 0, none⟩ (.int .i64 ((rd_T46 l0 x15_1).f0.f0))).setCell ⟨gb179, 1, none⟩ (.int .i64 ((rd_T46 l0 x15_1).f0.f1))).setCell ⟨gb179, 2, none⟩ (.int .i64 ((rd_T46 l0 x15_1).f1.f0))).setCell ⟨gb179, 3, none⟩ (.int .i64 ((rd_T46 l0 x15_1).f1.f1)))) := ⟨by repeat (first | (with_reducible first | exact HB.out | apply below_alloc | apply pw_below_drewN | apply below_drew1 | refine below_set ?_ GE179.out) | exact HB.out)⟩
                              (try clear BK179)
                              (try clear HB)
                              have hu_ : Aside0 (IsB gbB x5_1 ((((w20.setCell ⟨gb179, 0, none⟩ (.int .i64 ((rd_T46 l0 x15_1).f0.f0))).setCell ⟨gb179, 1, none⟩ (.int .i64 ((rd_T46 l0 x15_1).f0.f1))).setCell ⟨gb179, 2, none⟩ (.int .i64 ((rd_T46 l0 x15_1).f1.f0))).setCell ⟨gb179, 3, none⟩ (.int .i64 ((rd_T46 l0 x15_1).f1.f1)))) := ⟨isB_below HU.out (by repeat (first | exact HUb.out | refine below_set ?_ HUq.out))⟩; clear HU HUb HUq; have HU := hu_; clear hu_
                              generalize ((((w20.setCell ⟨gb179, 0, none⟩ (.int .i64 ((rd_T46 l0 x15_1).f0.f0))).setCell ⟨gb179, 1, none⟩ (.int .i64 ((rd_T46 l0 x15_1).f0.f1))).setCell ⟨gb179, 2, none⟩ (.int .i64 ((rd_T46 l0 x15_1).f1.f0))).setCell ⟨gb179, 3, none⟩ (.int .i64 ((rd_T46 l0 x15_1).f1.f1))) = w22 at HU n0_ n1_ ⊢
                              have BK179 := n0_
                              have HB := n1_
                              clear n0_ n1_
                              have n0_ := Aside0.mk (blk_drew BK179.out)
                              have n1_ := Aside0.mk (below_drew1 HB.out)
                              clear BK179
                              clear HB
                              have BK179 := n0_
                              have HB := n1_
                              clear n0_ n1_
                              refine start_ (n := 24) (S := fun w' => w'.cell? ⟨gb179, 0, none⟩ = some (.int .i64 ((rd_T46 l0 x15_1).f0.f0)) ∧ w'.cell? ⟨gb179, 1, none⟩ = some (.int .i64 ((rd_T46 l0 x15_1).f0.f1)) ∧ w'.cell? ⟨gb179, 2, none⟩ = some (.int .i64 ((rd_T46 l0 x15_1).f1.f0)) ∧ w'.cell? ⟨gb179, 3, none⟩ = some (.int .i64 ((rd_T46 l0 x15_1).f1.f1))) (ds := [23]) #[false, false, false, false, false, false, false, false, false, false, false, false, false, false, false, false, false, false, false, false, false, false, false, false] (by kernel_rfl) rfl rfl ⟨(blk_cell BK179.out 0).trans rfl, (blk_cell BK179.out 1).trans rfl, (blk_cell BK179.out 2).trans rfl, (blk_cell BK179.out 3).trans rfl⟩ (fun hHeld => ?_); refine with_tabW screen_Format.tab8 screen_Format.bits8 (fun HT_ HW_ => ?_)
                              have hu_ := Aside0.mk (isB_below HU.out (below_drew1 (Below.refl _ _))); clear HU; have HU := hu_; clear hu_
                              generalize w22.drew = w23 at HU BK179 HB hHeld ⊢
                              refine pure_ (i := 0) (N := some 19) (v := ?_) (a' := ?_) #[true, false, false, false, false, false, false, false, false, false, false, false, false, false, false, false, false, false, false, false, false, false, false, false] rfl rfl (any_of HT_.out (by kernel_rfl)) (fun _ _ _ h => h) (Or.inl ⟨by rfl, ?_⟩) ?_ ?_
                              rotate_left
                              · intro w'
                                go_simp
                                with_reducible rfl
                              rotate_left
                              · simp only [Act.put, List.setIfInBounds_toArray, List.set_cons_zero, List.set_cons_succ, i64_w, i32_w]
                                rfl
                              refine pure_ (i := 1) (N := some 20) (v := ?_) (a' := ?_) #[true, true, false, false, false, false, false, false, false, false, false, false, false, false, false, false, false, false, false, false, false, false, false, false] rfl rfl (any_of HT_.out (by kernel_rfl)) (fun _ _ _ h => h) (Or.inl ⟨by rfl, ?_⟩) ?_ ?_
                              rotate_left
                              · intro w'
                                go_simp
                                with_reducible rfl
                              rotate_left
                              · simp only [Act.put, List.setIfInBounds_toArray, List.set_cons_zero, List.set_cons_succ, i64_w, i32_w]
                                rfl
                              refine pure_ (i := 5) (N := some 24) (v := ?_) (a' := ?_) #[true, true, false, false, false, true, false, false, false, false, false, false, false, false, false, false, false, false, false, false, false, false, false, false] rfl rfl (any_of HT_.out (by kernel_rfl)) (fun _ _ _ h => h) (Or.inl ⟨by rfl, ?_⟩) ?_ ?_
                              rotate_left
                              · intro w'
                                go_simp
                                with_reducible rfl
                              rotate_left
                              · simp only [Act.put, List.setIfInBounds_toArray, List.set_cons_zero, List.set_cons_succ, i64_w, i32_w]
                                rfl
                              refine pure_ (i := 6) (N := some 25) (v := ?_) (a' := ?_) #[true, true, false, false, false, true, true, false, false, false, false, false, false, false, false, false, false, false, false, false, false, false, false, false] rfl rfl (any_of HT_.out (by kernel_rfl)) (fun _ _ _ h => h) (Or.inl ⟨by rfl, ?_⟩) ?_ ?_
                              rotate_left
                              · intro w'
                                go_simp
                                with_reducible rfl
                              rotate_left
                              · simp only [Act.put, List.setIfInBounds_toArray, List.set_cons_zero, List.set_cons_succ, i64_w, i32_w]
                                rfl
                              refine pure_ (i := 11) (N := some 30) (v := ?_) (a' := ?_) #[true, true, false, false, false, true, true, false, false, false, false, true, false, false, false, false, false, false, false, false, false, false, false, false] rfl rfl (any_of HT_.out (by kernel_rfl)) (fun _ _ _ h => h) (Or.inl ⟨by rfl, ?_⟩) ?_ ?_
                              rotate_left
                              · intro w'
                                go_simp
                                with_reducible rfl
                              rotate_left
                              · simp only [Act.put, List.setIfInBounds_toArray, List.set_cons_zero, List.set_cons_succ, i64_w, i32_w]
                                rfl
                              refine pure_ (i := 12) (N := some 31) (v := ?_) (a' := ?_) #[true, true, false, false, false, true, true, false, false, false, false, true, true, false, false, false, false, false, false, false, false, false, false, false] rfl rfl (any_of HT_.out (by kernel_rfl)) (fun _ _ _ h => h) (Or.inl ⟨by rfl, ?_⟩) ?_ ?_
                              rotate_left
                              · intro w'
                                go_simp
                                with_reducible rfl
                              rotate_left
                              · simp only [Act.put, List.setIfInBounds_toArray, List.set_cons_zero, List.set_cons_succ, i64_w, i32_w]
                                rfl
                              refine pure_ (i := 17) (N := some 36) (v := ?_) (a' := ?_) #[true, true, false, false, false, true, true, false, false, false, false, true, true, false, false, false, false, true, false, false, false, false, false, false] rfl rfl (any_of HT_.out (by kernel_rfl)) (fun _ _ _ h => h) (Or.inl ⟨by rfl, ?_⟩) ?_ ?_
                              rotate_left
                              · intro w'
                                go_simp
                                with_reducible rfl
                              rotate_left
                              · simp only [Act.put, List.setIfInBounds_toArray, List.set_cons_zero, List.set_cons_succ, i64_w, i32_w]
                                rfl
                              refine pure_ (i := 18) (N := some 37) (v := ?_) (a' := ?_) #[true, true, false, false, false, true, true, false, false, false, false, true, true, false, false, false, false, true, true, false, false, false, false, false] rfl rfl (any_of HT_.out (by kernel_rfl)) (fun _ _ _ h => h) (Or.inl ⟨by rfl, ?_⟩) ?_ ?_
                              rotate_left
                              · intro w'
                                go_simp
                                with_reducible rfl
                              rotate_left
                              · simp only [Act.put, List.setIfInBounds_toArray, List.set_cons_zero, List.set_cons_succ, i64_w, i32_w]
                                rfl
                              refine take_ (i := 2) (N := some 21) (v := ?_) (a' := ?_) #[true, true, true, false, false, true, true, false, false, false, false, true, true, false, false, false, false, true, true, false, false, false, false, false] rfl rfl (take_ofW HT_.out HW_.out (by kernel_rfl)) (fun _ _ _ h => h) (Or.inl ⟨by rfl, ?_⟩) hHeld ?_ ?_
                              rotate_left
                              · rintro w' ⟨s0, s1, s2, s3⟩
                                go_simp
                                with_reducible rfl
                              rotate_left
                              · simp only [Act.put, List.setIfInBounds_toArray, List.set_cons_zero, List.set_cons_succ, i64_w, i32_w]
                                rfl
                              refine take_ (i := 7) (N := some 26) (v := ?_) (a' := ?_) #[true, true, true, false, false, true, true, true, false, false, false, true, true, false, false, false, false, true, true, false, false, false, false, false] rfl rfl (take_ofW HT_.out HW_.out (by kernel_rfl)) (fun _ _ _ h => h) (Or.inl ⟨by rfl, ?_⟩) hHeld ?_ ?_
                              rotate_left
                              · rintro w' ⟨s0, s1, s2, s3⟩
                                go_simp
                                with_reducible rfl
                              rotate_left
                              · simp only [Act.put, List.setIfInBounds_toArray, List.set_cons_zero, List.set_cons_succ, i64_w, i32_w]
                                rfl
                              refine take_ (i := 13) (N := some 32) (v := ?_) (a' := ?_) #[true, true, true, false, false, true, true, true, false, false, false, true, true, true, false, false, false, true, true, false, false, false, false, false] rfl rfl (take_ofW HT_.out HW_.out (by kernel_rfl)) (fun _ _ _ h => h) (Or.inl ⟨by rfl, ?_⟩) hHeld ?_ ?_
                              rotate_left
                              · rintro w' ⟨s0, s1, s2, s3⟩
                                go_simp
                                with_reducible rfl
                              rotate_left
                              · simp only [Act.put, List.setIfInBounds_toArray, List.set_cons_zero, List.set_cons_succ, i64_w, i32_w]
                                rfl
                              refine take_ (i := 19) (N := some 38) (v := ?_) (a' := ?_) #[true, true, true, false, false, true, true, true, false, false, false, true, true, true, false, false, false, true, true, true, false, false, false, false] rfl rfl (take_ofW HT_.out HW_.out (by kernel_rfl)) (fun _ _ _ h => h) (Or.inl ⟨by rfl, ?_⟩) hHeld ?_ ?_
                              rotate_left
                              · rintro w' ⟨s0, s1, s2, s3⟩
                                go_simp
                                with_reducible rfl
                              rotate_left
                              · simp only [Act.put, List.setIfInBounds_toArray, List.set_cons_zero, List.set_cons_succ, i64_w, i32_w]
                                rfl
                              refine one_ (i := 3) (N := some 22) #[true, true, true, true, false, true, true, true, false, false, false, true, true, true, false, false, false, true, true, true, false, false, false, false] rfl rfl (one_of HT_.out (by kernel_rfl)) (by decide) (fun K hK => ?_)
                              refine goes_ Tryd.func22 (by kernel_rfl) rfl #[.int .i64 ((rd_T46 l0 x15_1).f0.f0)] (by rfl) rfl rfl (by (try simp only [List.map_toArray, List.map_cons, List.map_nil]); first | done | rfl | (simp only [List.length_drop, List.length_take]; rfl)) ?_
                              with_reducible refine (strconv_Itoa_22.calls ((rd_T46 l0 x15_1).f0.f0) t180 _ (Env.below hE (by repeat (first | (with_reducible first | exact HB.out | apply below_alloc | apply pw_below_drewN | apply below_drew1 | refine below_set ?_ GE179.out) | exact HB.out))) A8.out).mono ?_
                              rintro e w24 ⟨rfl, hb⟩
                              refine ⟨_, rfl, ?_⟩
                              have hu_ := Aside0.mk (isB_below HU.out hb); clear HU; have HU := hu_; clear hu_
                              have n0_ := Aside0.mk (blk_below (g := gb179) (o := .cells #[.int .i64 ((rd_T46 l0 x15_1).f0.f0), .int .i64 ((rd_T46 l0 x15_1).f0.f1), .int .i64 ((rd_T46 l0 x15_1).f1.f0), .int .i64 ((rd_T46 l0 x15_1).f1.f1)] 46 (0, 0)) (by (with_reducible repeat (first | refine blk_drewN ?_ _ | refine blk_drew ?_ | refine blk_alloc ?_ _)); exact BK179.out) hb)
                              have n1_ := Aside0.mk (below_step (by repeat (first | (with_reducible first | exact HB.out | apply below_alloc | apply pw_below_drewN | apply below_drew1 | refine below_set ?_ GE179.out) | exact HB.out)) hb)
                              clear BK179
                              clear HB
                              have BK179 := n0_
                              have HB := n1_
                              clear n0_ n1_
                              (try clear hb)
                              (try clear hb2)
                              (try clear hk)
                              (try clear hi)
                              refine hK.out _ _ ⟨(blk_cell BK179.out 0).trans rfl, (blk_cell BK179.out 1).trans rfl, (blk_cell BK179.out 2).trans rfl, (blk_cell BK179.out 3).trans rfl⟩ (fun hHeld => ?_)
                              clear hK K
                              refine norm_ (a' := ?_) ?_ ?_
                              rotate_left
                              · show Act.put _ (some 22) _ = _
                                simp only [Act.put, List.setIfInBounds_toArray, List.set_cons_zero, List.set_cons_succ, i64_w, i32_w]
                                rfl
                              refine pure_ (i := 4) (N := some 23) (v := ?_) (a' := ?_) #[true, true, true, true, true, true, true, true, false, false, false, true, true, true, false, false, false, true, true, true, false, false, false, false] rfl rfl (any_of HT_.out (by kernel_rfl)) (fun _ _ _ h => h) (Or.inl ⟨by rfl, ?_⟩) ?_ ?_
                              rotate_left
                              · intro w'
                                go_simp
                                with_reducible rfl
                              rotate_left
                              · simp only [Act.put, List.setIfInBounds_toArray, List.set_cons_zero, List.set_cons_succ, i64_w, i32_w]
                                rfl
                              refine one_ (i := 8) (N := some 27) #[true, true, true, true, true, true, true, true, true, false, false, true, true, true, false, false, false, true, true, true, false, false, false, false] rfl rfl (one_of HT_.out (by kernel_rfl)) (by decide) (fun K hK => ?_)
                              refine goes_ Tryd.func22 (by kernel_rfl) rfl #[.int .i64 ((rd_T46 l0 x15_1).f0.f1)] (by rfl) rfl rfl (by (try simp only [List.map_toArray, List.map_cons, List.map_nil]); first | done | rfl | (simp only [List.length_drop, List.length_take]; rfl)) ?_
                              with_reducible refine (strconv_Itoa_22.calls ((rd_T46 l0 x15_1).f0.f1) t181 _ (Env.below hE (by repeat (first | (with_reducible first | exact HB.out | apply below_alloc | apply pw_below_drewN | apply below_drew1 | refine below_set ?_ GE179.out) | exact HB.out))) A10.out).mono ?_
                              rintro e w25 ⟨rfl, hb⟩
                              refine ⟨_, rfl, ?_⟩
                              have hu_ := Aside0.mk (isB_below HU.out hb); clear HU; have HU := hu_; clear hu_
                              have n0_ := Aside0.mk (blk_below (g := gb179) (o := .cells #[.int .i64 ((rd_T46 l0 x15_1).f0.f0), .int .i64 ((rd_T46 l0 x15_1).f0.f1), .int .i64 ((rd_T46 l0 x15_1).f1.f0), .int .i64 ((rd_T46 l0 x15_1).f1.f1)] 46 (0, 0)) (by (with_reducible repeat (first | refine blk_drewN ?_ _ | refine blk_drew ?_ | refine blk_alloc ?_ _)); exact BK179.out) hb)
                              have n1_ := Aside0.mk (below_step (by repeat (first | (with_reducible first | exact HB.out | apply below_alloc | apply pw_below_drewN | apply below_drew1 | refine below_set ?_ GE179.out) | exact HB.out)) hb)
                              clear BK179
                              clear HB
                              have BK179 := n0_
                              have HB := n1_
                              clear n0_ n1_
                              (try clear hb)
                              (try clear hb2)
                              (try clear hk)
                              (try clear hi)
                              refine hK.out _ _ ⟨(blk_cell BK179.out 0).trans rfl, (blk_cell BK179.out 1).trans rfl, (blk_cell BK179.out 2).trans rfl, (blk_cell BK179.out 3).trans rfl⟩ (fun hHeld => ?_)
                              clear hK K
                              refine norm_ (a' := ?_) ?_ ?_
                              rotate_left
                              · show Act.put _ (some 27) _ = _
                                simp only [Act.put, List.setIfInBounds_toArray, List.set_cons_zero, List.set_cons_succ, i64_w, i32_w]
                                rfl
                              refine pure_ (i := 9) (N := some 28) (v := ?_) (a' := ?_) #[true, true, true, true, true, true, true, true, true, true, false, true, true, true, false, false, false, true, true, true, false, false, false, false] rfl rfl (any_of HT_.out (by kernel_rfl)) (fun _ _ _ h => h) (Or.inl ⟨by rfl, ?_⟩) ?_ ?_
                              rotate_left
                              · intro w'
                                go_simp
                                with_reducible rfl
                              rotate_left
                              · simp only [Act.put, List.setIfInBounds_toArray, List.set_cons_zero, List.set_cons_succ, i64_w, i32_w]
                                rfl
                              refine pure_ (i := 10) (N := some 29) (v := ?_) (a' := ?_) #[true, true, true, true, true, true, true, true, true, true, true, true, true, true, false, false, false, true, true, true, false, false, false, false] rfl rfl (any_of HT_.out (by kernel_rfl)) (fun _ _ _ h => h) (Or.inl ⟨by rfl, ?_⟩) ?_ ?_
                              rotate_left
                              · intro w'
                                go_simp
                                with_reducible rfl
                              rotate_left
                              · simp only [Act.put, List.setIfInBounds_toArray, List.set_cons_zero, List.set_cons_succ, i64_w, i32_w]
                                rfl
                              refine one_ (i := 14) (N := some 33) #[true, true, true, true, true, true, true, true, true, true, true, true, true, true, true, false, false, true, true, true, false, false, false, false] rfl rfl (one_of HT_.out (by kernel_rfl)) (by decide) (fun K hK => ?_)
                              refine goes_ Tryd.func22 (by kernel_rfl) rfl #[.int .i64 ((rd_T46 l0 x15_1).f1.f0)] (by rfl) rfl rfl (by (try simp only [List.map_toArray, List.map_cons, List.map_nil]); first | done | rfl | (simp only [List.length_drop, List.length_take]; rfl)) ?_
                              with_reducible refine (strconv_Itoa_22.calls ((rd_T46 l0 x15_1).f1.f0) t182 _ (Env.below hE (by repeat (first | (with_reducible first | exact HB.out | apply below_alloc | apply pw_below_drewN | apply below_drew1 | refine below_set ?_ GE179.out) | exact HB.out))) A13.out).mono ?_
                              rintro e w26 ⟨rfl, hb⟩
                              refine ⟨_, rfl, ?_⟩
                              have hu_ := Aside0.mk (isB_below HU.out hb); clear HU; have HU := hu_; clear hu_
                              have n0_ := Aside0.mk (blk_below (g := gb179) (o := .cells #[.int .i64 ((rd_T46 l0 x15_1).f0.f0), .int .i64 ((rd_T46 l0 x15_1).f0.f1), .int .i64 ((rd_T46 l0 x15_1).f1.f0), .int .i64 ((rd_T46 l0 x15_1).f1.f1)] 46 (0, 0)) (by (with_reducible repeat (first | refine blk_drewN ?_ _ | refine blk_drew ?_ | refine blk_alloc ?_ _)); exact BK179.out) hb)
                              have n1_ := Aside0.mk (below_step (by repeat (first | (with_reducible first | exact HB.out | apply below_alloc | apply pw_below_drewN | apply below_drew1 | refine below_set ?_ GE179.out) | exact HB.out)) hb)
                              clear BK179
                              clear HB
                              have BK179 := n0_
                              have HB := n1_
                              clear n0_ n1_
                              (try clear hb)
                              (try clear hb2)
                              (try clear hk)
                              (try clear hi)
                              refine hK.out _ _ ⟨(blk_cell BK179.out 0).trans rfl, (blk_cell BK179.out 1).trans rfl, (blk_cell BK179.out 2).trans rfl, (blk_cell BK179.out 3).trans rfl⟩ (fun hHeld => ?_)
                              clear hK K
                              refine norm_ (a' := ?_) ?_ ?_
                              rotate_left
                              · show Act.put _ (some 33) _ = _
                                simp only [Act.put, List.setIfInBounds_toArray, List.set_cons_zero, List.set_cons_succ, i64_w, i32_w]
                                rfl
                              refine pure_ (i := 15) (N := some 34) (v := ?_) (a' := ?_) #[true, true, true, true, true, true, true, true, true, true, true, true, true, true, true, true, false, true, true, true, false, false, false, false] rfl rfl (any_of HT_.out (by kernel_rfl)) (fun _ _ _ h => h) (Or.inl ⟨by rfl, ?_⟩) ?_ ?_
                              rotate_left
                              · intro w'
                                go_simp
                                with_reducible rfl
                              rotate_left
                              · simp only [Act.put, List.setIfInBounds_toArray, List.set_cons_zero, List.set_cons_succ, i64_w, i32_w]
                                rfl
                              refine pure_ (i := 16) (N := some 35) (v := ?_) (a' := ?_) #[true, true, true, true, true, true, true, true, true, true, true, true, true, true, true, true, true, true, true, true, false, false, false, false] rfl rfl (any_of HT_.out (by kernel_rfl)) (fun _ _ _ h => h) (Or.inl ⟨by rfl, ?_⟩) ?_ ?_
                              rotate_left
                              · intro w'
                                go_simp
                                with_reducible rfl
                              rotate_left
                              · simp only [Act.put, List.setIfInBounds_toArray, List.set_cons_zero, List.set_cons_succ, i64_w, i32_w]
                                rfl
                              refine one_ (i := 20) (N := some 39) #[true, true, true, true, true, true, true, true, true, true, true, true, true, true, true, true, true, true, true, true, true, false, false, false] rfl rfl (one_of HT_.out (by kernel_rfl)) (by decide) (fun K hK => ?_)
                              refine goes_ Tryd.func22 (by kernel_rfl) rfl #[.int .i64 ((rd_T46 l0 x15_1).f1.f1)] (by rfl) rfl rfl (by (try simp only [List.map_toArray, List.map_cons, List.map_nil]); first | done | rfl | (simp only [List.length_drop, List.length_take]; rfl)) ?_
                              with_reducible refine (strconv_Itoa_22.calls ((rd_T46 l0 x15_1).f1.f1) t183 _ (Env.below hE (by repeat (first | (with_reducible first | exact HB.out | apply below_alloc | apply pw_below_drewN | apply below_drew1 | refine below_set ?_ GE179.out) | exact HB.out))) A16.out).mono ?_
                              rintro e w27 ⟨rfl, hb⟩
                              refine ⟨_, rfl, ?_⟩
                              have hu_ := Aside0.mk (isB_below HU.out hb); clear HU; have HU := hu_; clear hu_
                              have n0_ := Aside0.mk (blk_below (g := gb179) (o := .cells #[.int .i64 ((rd_T46 l0 x15_1).f0.f0), .int .i64 ((rd_T46 l0 x15_1).f0.f1), .int .i64 ((rd_T46 l0 x15_1).f1.f0), .int .i64 ((rd_T46 l0 x15_1).f1.f1)] 46 (0, 0)) (by (with_reducible repeat (first | refine blk_drewN ?_ _ | refine blk_drew ?_ | refine blk_alloc ?_ _)); exact BK179.out) hb)
                              have n1_ := Aside0.mk (below_step (by repeat (first | (with_reducible first | exact HB.out | apply below_alloc | apply pw_below_drewN | apply below_drew1 | refine below_set ?_ GE179.out) | exact HB.out)) hb)
                              clear BK179
                              clear HB
                              have BK179 := n0_
                              have HB := n1_
                              clear n0_ n1_
                              (try clear hb)
                              (try clear hb2)
                              (try clear hk)
                              (try clear hi)
                              refine hK.out _ _ ⟨(blk_cell BK179.out 0).trans rfl, (blk_cell BK179.out 1).trans rfl, (blk_cell BK179.out 2).trans rfl, (blk_cell BK179.out 3).trans rfl⟩ (fun hHeld => ?_)
                              clear hK K
                              refine norm_ (a' := ?_) ?_ ?_
                              rotate_left
                              · show Act.put _ (some 39) _ = _
                                simp only [Act.put, List.setIfInBounds_toArray, List.set_cons_zero, List.set_cons_succ, i64_w, i32_w]
                                rfl
                              refine pure_ (i := 21) (N := some 40) (v := ?_) (a' := ?_) #[true, true, true, true, true, true, true, true, true, true, true, true, true, true, true, true, true, true, true, true, true, true, false, false] rfl rfl (any_of HT_.out (by kernel_rfl)) (fun _ _ _ h => h) (Or.inl ⟨by rfl, ?_⟩) ?_ ?_
                              rotate_left
                              · intro w'
                                go_simp
                                with_reducible rfl
                              rotate_left
                              · simp only [Act.put, List.setIfInBounds_toArray, List.set_cons_zero, List.set_cons_succ, i64_w, i32_w]
                                rfl
                              refine pure_ (i := 22) (N := some 41) (v := ?_) (a' := ?_) #[true, true, true, true, true, true, true, true, true, true, true, true, true, true, true, true, true, true, true, true, true, true, true, false] rfl rfl (any_of HT_.out (by kernel_rfl)) (fun _ _ _ h => h) (Or.inl ⟨by rfl, ?_⟩) ?_ ?_
                              rotate_left
                              · intro w'
                                go_simp
                                with_reducible rfl
                              rotate_left
                              · simp only [Act.put, List.setIfInBounds_toArray, List.set_cons_zero, List.set_cons_succ, i64_w, i32_w]
                                rfl
                              refine last_ (i := 23) (N := some 42) #[true, true, true, true, true, true, true, true, true, true, true, true, true, true, true, true, true, true, true, true, true, true, true, true] rfl rfl (one_of HT_.out (by kernel_rfl)) (by decide) (fun K hK => ?_)
                              refine goes_ Tryd.func21 (by kernel_rfl) rfl #[.pointer (some ⟨gbB, 0, none⟩), .string (((((((t180 ++ (⟨#[32]⟩ : ByteArray)) ++ t181) ++ (⟨#[32]⟩ : ByteArray)) ++ t182) ++ (⟨#[32]⟩ : ByteArray)) ++ t183) ++ (⟨#[10]⟩ : ByteArray))] (by rfl) rfl rfl (by (try simp only [List.map_toArray, List.map_cons, List.map_nil]); first | done | rfl | (simp only [List.length_drop, List.length_take]; rfl)) ?_
                              (with_reducible refine (writeB gbB x5_1 (((((((t180 ++ (⟨#[32]⟩ : ByteArray)) ++ t181) ++ (⟨#[32]⟩ : ByteArray)) ++ t182) ++ (⟨#[32]⟩ : ByteArray)) ++ t183) ++ (⟨#[10]⟩ : ByteArray)) _ HU.out ?hl).mono ?_)
                              (case hl => exact LMc19.out)
                              rintro e wz ⟨rfl, hu_, hb⟩
                              refine ⟨_, rfl, ?_⟩
                              have n0_ := Aside0.mk (Below.trans (by repeat (first | (with_reducible first | exact HB.out | apply below_alloc | apply pw_below_drewN | apply below_drew1) | exact HB.out)) (hb.mono GB.out))
                              have n1_ := Aside0.mk hu_
                              clear HB HU hb hu_
                              have HB := n0_
                              have HU := n1_
                              clear n0_ n1_
                              refine hK.out _ _ ?_
                              clear hK K
                              refine norm_ (a' := ?_) ?_ ?_
                              rotate_left
                              · show Act.put _ (some 42) _ = _
                                simp only [Act.put, List.setIfInBounds_toArray, List.set_cons_zero, List.set_cons_succ, i64_w, i32_w]
                                rfl
                              refine done_ (done_of HT_.out (by kernel_rfl)) ?_
                              try go_wp2
                              go_roundg k1
                              case measure => have := HK1.out; omega
                              case rel => exact ⟨(x5_1 ++ (((((((t180 ++ (⟨#[32]⟩ : ByteArray)) ++ t181) ++ (⟨#[32]⟩ : ByteArray)) ++ t182) ++ (⟨#[32]⟩ : ByteArray)) ++ t183) ++ (⟨#[10]⟩ : ByteArray))), (wrap64 (x15_1 + 1)), (by first | rfl | (simp; done) | (simp [*]; done)), H', ⟨by have := HK1.out; omega⟩, ⟨by first | exact HU.out | (exact isB_below HU.out (by repeat (first | (with_reducible first | exact Below.refl _ _ | apply below_alloc | apply pw_below_drewN | apply below_drew1) | exact Below.refl _ _)))⟩, ⟨by repeat (first | (with_reducible first | exact HB.out | apply below_alloc | apply pw_below_drewN | apply below_drew1 | refine below_set ?_ GE179.out) | exact HB.out)⟩⟩
                            · rw [if_neg c19] at H
                              exact absurd H (by simp)
                          · rw [if_neg c18] at H
                            exact absurd H (by simp)
                        · rw [if_neg c17] at H
                          exact absurd H (by simp)
                      · rw [if_neg c15] at H
                        exact absurd H (by simp)
                    · rw [if_neg c14] at H
                      exact absurd H (by simp)
                  · rw [if_neg c12] at H
                    exact absurd H (by simp)
                · rw [if_neg c11] at H
                  exact absurd H (by simp)
              · rw [if_neg c9] at H
                exact absurd H (by simp)
            · rw [if_neg c7] at H
              exact absurd H (by simp)
          · rw [if_neg c6] at H
            exact absurd H (by simp)
        · rw [if_neg c5] at H
          have c5b0 : decide (x15_1 < (l0.length : Int)) = false := decide_eq_false c5
          clear c5
          simp only [Option.some.injEq, Prod.mk.injEq] at H
          obtain ⟨rfl, rfl⟩ := H
          go_wp2_with (first | (go_at_call 23; (with_reducible refine (stringB gbB x5_1 _ HU.out).mono ?_); rintro e wz ⟨rfl, hb⟩; have n0_ := Aside0.mk (Below.trans (by repeat (first | (with_reducible first | exact HB.out | apply below_alloc | apply pw_below_drewN | apply below_drew1) | exact HB.out)) (hb.mono GB.out)); clear HB HU hb; have HB := n0_; clear n0_))
          go_ret2
          exact ⟨by first | rfl | (simp [errW_none, errW_some] <;> rfl) | (simp [*, errW_none, errW_some] <;> rfl), by repeat (first | (with_reducible first | exact HB.out | apply below_alloc | apply pw_below_drewN | apply below_drew1) | exact HB.out)⟩
  · rw [if_neg c3] at H
    have c3b0 : (t177 == 0) = false := beq_eq_false_iff_ne.mpr c3
    have c3b1 : (t177 != 0) = true := bne_iff_ne.mpr c3
    simp only [Option.some.injEq, Prod.mk.injEq] at H
    obtain ⟨rfl, rfl⟩ := H
    go_enter Tryd.func7, Tryd.ntmps7
    go_wp2_with (first | ((with_reducible refine gate_callee (f := 20) rfl ?_); refine goesL_ (some 9) rfl rfl Tryd.func20 (by kernel_rfl) rfl #[.slice A0 l0.length c0] rfl (by (try simp only [List.map_toArray, List.map_cons, List.map_nil]); first | done | rfl | (simp only [List.length_drop, List.length_take]; rfl)) ?_; (with_reducible refine (screen_Validate.calls k _ _ l0 t177 _ ?side1 ?side2 A2.out).mono ?_); (case side1 => repeat (first | exact HR0.out | (with_reducible refine Kd.C_alloc ?_ _) | (with_reducible refine Kd.C_drewN ?_ _) | (with_reducible refine Kd.C_drew ?_))); (case side2 => exact HC0.out); rintro e w28 ⟨rfl, hb⟩; refine ⟨_, rfl, ?_⟩; have n0_ := Aside0.mk (below_step (by repeat (first | (with_reducible first | exact HB.out | apply below_alloc | apply pw_below_drewN | apply below_drew1) | exact HB.out)) hb); clear HB; have HB := n0_; clear n0_; (try clear hb); (try clear hb2); (try clear hk); (try clear hi)))
    go_ret2
    exact ⟨by first | rfl | (simp [errW_none, errW_some] <;> rfl) | (simp [*, errW_none, errW_some] <;> rfl), by repeat (first | (with_reducible first | exact HB.out | apply below_alloc | apply pw_below_drewN | apply below_drew1) | exact HB.out)⟩

def wigeonref02_within.f (a0 : Int) (a1 : Int) (a2 : Int) : Option (Bool) := if a0 ≥ a1 then (some (decide (a0 ≤ a2))) else (some false)
set_option maxHeartbeats 8000000 in
set_option maxRecDepth 100000 in
theorem wigeonref02_within.calls (a0 : Int) (a1 : Int) (a2 : Int) (r : Bool) (w : World) (h : wigeonref02_within.f a0 a1 a2 = some r) :
    Calls Tryd.prog 64 #[.int .i64 a0, .int .i64 a1, .int .i64 a2] w fun e w' => e = .returned (.bool r) ∧ Drawn0 w w' := by
  have H : (if a0 ≥ a1 then (some (decide (a0 ≤ a2))) else (some false)) = some r := h
  clear h
  by_cases c4 : a0 ≥ a1
  · rw [if_pos c4] at H
    have c4b0 : decide (a1 ≤ a0) = true := decide_eq_true c4
    clear c4
    obtain rfl := Option.some.inj H
    go_enter Tryd.func64, Tryd.ntmps64
    go_wp2
    go_ret
    exact ⟨by first | rfl | (simp; done) | (simp [*]; done) | (simp [IntKind.wrap_i64, wrap64]; done), by repeat (first | exact Drawn0.refl _ | apply Drawn0.step)⟩
  · rw [if_neg c4] at H
    have c4b0 : decide (a1 ≤ a0) = false := decide_eq_false c4
    clear c4
    obtain rfl := Option.some.inj H
    go_enter Tryd.func64, Tryd.ntmps64
    go_wp2
    go_ret
    exact ⟨by first | rfl | (simp; done) | (simp [*]; done) | (simp [IntKind.wrap_i64, wrap64]; done), by repeat (first | exact Drawn0.refl _ | apply Drawn0.step)⟩

def wigeonref02_IsPoint.f (a0_0 : Int) (a0_1 : Int) : Option (Bool) := (wigeonref02_within.f a0_0 (-100) 100).bind fun t185 => (if t185 = true then ((wigeonref02_within.f a0_1 (-100) 100).bind fun t186 => (some t186)) else (some false))
set_option maxHeartbeats 8000000 in
set_option maxRecDepth 100000 in
theorem wigeonref02_IsPoint.calls (a0_0 : Int) (a0_1 : Int) (r : Bool) (w : World) (h : wigeonref02_IsPoint.f a0_0 a0_1 = some r) :
    Calls Tryd.prog 43 #[.agg #[.int .i64 a0_0, .int .i64 a0_1]] w fun e w' => e = .returned (.bool r) ∧ Below w.heap.size w w' := by
  have hu44 := Tryd.underlying44
  have HB := Aside0.mk (Below.refl w.heap.size w)
  have H : ((wigeonref02_within.f a0_0 (-100) 100).bind fun t185 => (if t185 = true then ((wigeonref02_within.f a0_1 (-100) 100).bind fun t186 => (some t186)) else (some false))) = some r := h
  clear h
  replace H := Option.bind_eq_some_iff.mp H
  obtain ⟨t185, A20, H⟩ := H
  replace H : (if t185 = true then ((wigeonref02_within.f a0_1 (-100) 100).bind fun t186 => (some t186)) else (some false)) = some r := H
  have A2 := Aside0.mk A20
  clear A20
  by_cases c3 : t185 = true
  · subst c3
    have H1 : ((wigeonref02_within.f a0_1 (-100) 100).bind fun t186 => (some t186)) = some r := by rw [if_pos rfl] at H; exact H
    clear H
    have H := H1
    clear H1
    replace H := Option.bind_eq_some_iff.mp H
    obtain ⟨t186, A40, H⟩ := H
    replace H : (some t186) = some r := H
    have A4 := Aside0.mk A40
    clear A40
    obtain rfl := Option.some.inj H
    go_enter Tryd.func43, Tryd.ntmps43
    go_wp2_with (first | ((with_reducible refine gate_dst (N := 1) rfl ?_); refine box_event ?hg (N := 1) ?hd (cs := #[.int .i64 a0_0, .int .i64 a0_1]) (t := 44) ?hr ?_; (case hd => rfl); (case hg => rfl); (case hr => first | (go_simp; done) | (go_simp; rfl)); intro gb184 hg w5 hbox hb; have n0_ := Aside0.mk (below_step (by repeat (first | (with_reducible first | exact HB.out | apply below_alloc | apply pw_below_drewN | apply below_drew1) | exact HB.out)) hb); have n1_ := Aside0.mk (hbox); have n2_ := Aside0.mk ((by rw [hg]; exact (below_size (by repeat (first | (with_reducible first | exact HB.out | apply below_alloc | apply pw_below_drewN | apply below_drew1) | exact HB.out))) : w.heap.size ≤ gb184)); have n3_ := Aside0.mk ((by rw [hg]; exact (below_size (by repeat (first | (with_reducible first | exact HB.out | apply below_alloc | apply pw_below_drewN | apply below_drew1) | exact HB.out))) : w.heap.size ≤ gb184)); clear HB; have HB := n0_; have BK184 := n1_; have GW184 := n2_; have GE184 := n3_; clear n0_ n1_ n2_ n3_; clear hb hbox hg; have hcz6_0 : w5.cell? ⟨gb184, 0, none⟩ = some (.int .i64 a0_0) := (blk_cell BK184.out 0).trans rfl; have hcz6_1 : w5.cell? ⟨gb184, 1, none⟩ = some (.int .i64 a0_1) := (blk_cell BK184.out 1).trans rfl; have hfz6_0 := blk_frozen BK184.out 0; have hfz6_1 := blk_frozen BK184.out 1) | ((with_reducible refine gate_callee (f := 64) rfl ?_); refine goesL_ (some 5) rfl rfl Tryd.func64 (by kernel_rfl) rfl #[.int .i64 a0_0, .int .i64 (-100), .int .i64 100] rfl (by (try simp only [List.map_toArray, List.map_cons, List.map_nil]); first | done | rfl | (simp only [List.length_drop, List.length_take]; rfl)) ?_; (with_reducible refine (wigeonref02_within.calls a0_0 (-100) 100 true _ A2.out).mono ?_); rintro e w' ⟨rfl, ⟨nd, rfl⟩⟩; refine ⟨_, rfl, ?_⟩) | (go_at_call 64; (with_reducible refine (wigeonref02_within.calls a0_1 (-100) 100 t186 _ A4.out).mono ?_); rintro e w' ⟨rfl, ⟨nd, rfl⟩⟩))
    go_ret
    exact ⟨by first | rfl | (simp [errW_none, errW_some] <;> rfl) | (simp [*, errW_none, errW_some] <;> rfl), by repeat (first | (with_reducible first | exact HB.out | apply below_alloc | apply pw_below_drewN | apply below_drew1 | refine below_set ?_ GE184.out) | exact HB.out)⟩
  · replace c3 := Bool.eq_false_iff.mpr c3
    subst c3
    have H1 : (some false) = some r := by rw [if_neg (show ¬ (false = true) by decide)] at H; exact H
    clear H
    have H := H1
    clear H1
    obtain rfl := Option.some.inj H
    go_enter Tryd.func43, Tryd.ntmps43
    go_wp2_with (first | ((with_reducible refine gate_dst (N := 1) rfl ?_); refine box_event ?hg (N := 1) ?hd (cs := #[.int .i64 a0_0, .int .i64 a0_1]) (t := 44) ?hr ?_; (case hd => rfl); (case hg => rfl); (case hr => first | (go_simp; done) | (go_simp; rfl)); intro gb184 hg w7 hbox hb; have n0_ := Aside0.mk (below_step (by repeat (first | (with_reducible first | exact HB.out | apply below_alloc | apply pw_below_drewN | apply below_drew1) | exact HB.out)) hb); have n1_ := Aside0.mk (hbox); have n2_ := Aside0.mk ((by rw [hg]; exact (below_size (by repeat (first | (with_reducible first | exact HB.out | apply below_alloc | apply pw_below_drewN | apply below_drew1) | exact HB.out))) : w.heap.size ≤ gb184)); have n3_ := Aside0.mk ((by rw [hg]; exact (below_size (by repeat (first | (with_reducible first | exact HB.out | apply below_alloc | apply pw_below_drewN | apply below_drew1) | exact HB.out))) : w.heap.size ≤ gb184)); clear HB; have HB := n0_; have BK184 := n1_; have GW184 := n2_; have GE184 := n3_; clear n0_ n1_ n2_ n3_; clear hb hbox hg; have hcz8_0 : w7.cell? ⟨gb184, 0, none⟩ = some (.int .i64 a0_0) := (blk_cell BK184.out 0).trans rfl; have hcz8_1 : w7.cell? ⟨gb184, 1, none⟩ = some (.int .i64 a0_1) := (blk_cell BK184.out 1).trans rfl; have hfz8_0 := blk_frozen BK184.out 0; have hfz8_1 := blk_frozen BK184.out 1) | ((with_reducible refine gate_callee (f := 64) rfl ?_); refine goesL_ (some 5) rfl rfl Tryd.func64 (by kernel_rfl) rfl #[.int .i64 a0_0, .int .i64 (-100), .int .i64 100] rfl (by (try simp only [List.map_toArray, List.map_cons, List.map_nil]); first | done | rfl | (simp only [List.length_drop, List.length_take]; rfl)) ?_; (with_reducible refine (wigeonref02_within.calls a0_0 (-100) 100 false _ A2.out).mono ?_); rintro e w' ⟨rfl, ⟨nd, rfl⟩⟩; refine ⟨_, rfl, ?_⟩))
    go_ret
    exact ⟨by first | rfl | (simp [errW_none, errW_some] <;> rfl) | (simp [*, errW_none, errW_some] <;> rfl), by repeat (first | (with_reducible first | exact HB.out | apply below_alloc | apply pw_below_drewN | apply below_drew1 | refine below_set ?_ GE184.out) | exact HB.out)⟩

end Go.Proofs.YtjiheojjfnfmaaaDoor.ST

