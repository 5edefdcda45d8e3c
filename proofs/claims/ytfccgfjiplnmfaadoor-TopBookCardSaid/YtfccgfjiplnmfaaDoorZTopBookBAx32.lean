/- Of the text BAx32, what the row of TopBook reaches. -/
import Derived.Test.YtfccgfjiplnmfaaDoorZTopBookBAx0
import Derived.Test.YtfccgfjiplnmfaaDoorZTopBookBAx10
import Derived.Test.YtfccgfjiplnmfaaDoorZTopBookBAx12
import Derived.Test.YtfccgfjiplnmfaaDoorZTopBookBAx23
import Derived.Shelf.Strings.BuilderF
namespace Go.Proofs.YtfccgfjiplnmfaaDoor.BA
open Go.RowKit Go.Proofs.YtfccgfjiplnmfaaDoorW.PrintWords Go.Proofs.YtfccgfjiplnmfaaDoorW.PrintLast Go.Proofs.YtfccgfjiplnmfaaDoorW.PrintMore
attribute [local go_sem] max2_int min2_int max_two min_two max_three min_three max_four min_four   -- for this text's walks alone
set_option linter.unusedVariables false
set_option linter.unusedSimpArgs false

def wsLay_ren : Go.Shelf.Ren := ⟨fun | 166 => 49 | 240 => 66 | 276 => 80 | n => n, fun | 70 => 75 | 9 => 9 | 3 => 3 | 75 => 80 | 0 => 0 | 72 => 78 | 37 => 76 | 4 => 4 | 164 => 109 | 80 => 84 | 5 => 5 | n => n, fun | n => n⟩
theorem wsLay : Go.Proofs.Lays.n166 Tryd.prog wsLay_ren where
  mixed := by kernel_rfl
  f166 := Tryd.func49.trans (congrArg some (by kernel_rfl))
  f240 := Tryd.func66.trans (congrArg some (by kernel_rfl))
  f276 := Tryd.func80.trans (congrArg some (by kernel_rfl))
  t0 := Tryd.underlying0
  a0 := Tryd.isAgg0
  z0 := Tryd.sizeOf0
  v0 := Tryd.zeroValue0
  t3 := Tryd.underlying3
  a3 := Tryd.isAgg3
  z3 := Tryd.sizeOf3
  v3 := Tryd.zeroValue3
  t4 := Tryd.underlying4
  a4 := Tryd.isAgg4
  z4 := Tryd.sizeOf4
  v4 := Tryd.zeroValue4
  t9 := Tryd.underlying9
  a9 := Tryd.isAgg9
  z9 := Tryd.sizeOf9
  v9 := Tryd.zeroValue9
  t20 := Tryd.underlying20
  a20 := Tryd.isAgg20
  z20 := Tryd.sizeOf20
  v20 := Tryd.zeroValue20
  t37 := Tryd.underlying76
  a37 := Tryd.isAgg76
  z37 := Tryd.sizeOf76
  v37 := Tryd.zeroValue76
  t70 := Tryd.underlying75
  a70 := Tryd.isAgg75
  z70 := Tryd.sizeOf75
  v70 := Tryd.zeroValue75
  t72 := Tryd.underlying78
  a72 := Tryd.isAgg78
  z72 := Tryd.sizeOf78
  v72 := Tryd.zeroValue78
  t75 := Tryd.underlying80
  a75 := Tryd.isAgg80
  z75 := Tryd.sizeOf80
  v75 := Tryd.zeroValue80
  t164 := Tryd.underlying109
  a164 := Tryd.isAgg109
  z164 := Tryd.sizeOf109
  v164 := Tryd.zeroValue109
def bsLay_ren : Go.Shelf.Ren := ⟨fun | 169 => 51 | n => n, fun | 70 => 75 | 9 => 9 | 0 => 0 | 72 => 78 | 37 => 76 | 127 => 100 | 3 => 3 | 5 => 5 | n => n, fun | n => n⟩
theorem bsLay : Go.Proofs.Lays.n169 Tryd.prog bsLay_ren where
  mixed := by kernel_rfl
  f169 := Tryd.func51.trans (congrArg some (by kernel_rfl))
  t0 := Tryd.underlying0
  a0 := Tryd.isAgg0
  z0 := Tryd.sizeOf0
  v0 := Tryd.zeroValue0
  t3 := Tryd.underlying3
  a3 := Tryd.isAgg3
  z3 := Tryd.sizeOf3
  v3 := Tryd.zeroValue3
  t9 := Tryd.underlying9
  a9 := Tryd.isAgg9
  z9 := Tryd.sizeOf9
  v9 := Tryd.zeroValue9
  t37 := Tryd.underlying76
  a37 := Tryd.isAgg76
  z37 := Tryd.sizeOf76
  v37 := Tryd.zeroValue76
  t70 := Tryd.underlying75
  a70 := Tryd.isAgg75
  z70 := Tryd.sizeOf75
  v70 := Tryd.zeroValue75
  t72 := Tryd.underlying78
  a72 := Tryd.isAgg78
  z72 := Tryd.sizeOf78
  v72 := Tryd.zeroValue78
  t127 := Tryd.underlying100
  a127 := Tryd.isAgg100
  z127 := Tryd.sizeOf100
  v127 := Tryd.zeroValue100
theorem wsExtra : Builder.Extra Tryd.prog wsLay_ren where
  sizeBuilder := by kernel_rfl
  liesBuilder := by kernel_rfl
  t5 := Tryd.underlying5
  a5 := Tryd.isAgg5
  z5 := Tryd.sizeOf5
  v5 := Tryd.zeroValue5
  infoByte := by kernel_rfl
  cellsByte := by kernel_rfl
  sizeByte := by kernel_rfl
  neB5 := by decide
theorem bsExtra : Builder.Extra Tryd.prog bsLay_ren where
  sizeBuilder := by kernel_rfl
  liesBuilder := by kernel_rfl
  t5 := Tryd.underlying5
  a5 := Tryd.isAgg5
  z5 := Tryd.sizeOf5
  v5 := Tryd.zeroValue5
  infoByte := by kernel_rfl
  cellsByte := by kernel_rfl
  sizeByte := by kernel_rfl
  neB5 := by decide
theorem builderAt_below {T e : TypeId} {B b : Nat} {p : Value} {bs : List Value} {W W' : World} (h : Lib.BuilderAtF T e B b p bs W) (hb : Below W.heap.size W W') : Lib.BuilderAtF T e B b p bs W' := by
  have hlt := h.lt
  obtain ⟨hB, v, hv, hown, hne⟩ := h
  exact ⟨hB, v, (hb.block b hlt).trans hv, hown.kept (row := none) ⟨hb.os, hb.tape, hb.output, hb.size, fun k hk _ => hb.block k hk⟩ (Classical.em _), hne⟩
theorem builder_below {T e : TypeId} {B b : Nat} {bs : List Value} {W W' : World} (h : Lib.IsBuilderF T e B b bs W) (hb : Below W.heap.size W W') : Lib.IsBuilderF T e B b bs W' :=
  h.elim (fun x => .inl (builderAt_below x hb)) (fun x => .inr (builderAt_below x hb))
theorem writeS_at (B b : Nat) (l : List UInt8) (s : ByteArray) (w : World) (h : Lib.IsBuilderF 78 5 B b (Lib.byteCells l) w) (hlen : l.length + s.size ≤ 140737488355328) (hBw : B ≤ w.heap.size) :
    Calls Tryd.prog 49 #[.pointer (some ⟨b, 0, none⟩), .string s] w fun e w' => e = .returned (.tuple #[.int .i64 s.size, .nilIface]) ∧ Lib.IsBuilderF 78 5 B b (Lib.byteCells (l ++ s.data.toList)) w' ∧ Below B w w' :=
  (Any.Builder_WriteString_f wsLay wsExtra B b (Lib.byteCells l) s w h (by rw [Lib.byteCells_length]; exact hlen) hBw).mono fun e w' q => ⟨q.1, by
    have h1 := q.2.1
    rw [Lib.strCells_eq, ← Lib.byteCells_append] at h1
    exact Or.inr h1, q.2.2⟩
theorem stringS_at (B b : Nat) (l : List UInt8) (w : World) (h : Lib.IsBuilderF 78 5 B b (Lib.byteCells l) w) (hBw : B ≤ w.heap.size) :
    Calls Tryd.prog 51 #[.pointer (some ⟨b, 0, none⟩)] w fun e w' => e = .returned (.string ⟨l.toArray⟩) ∧ Below B w w' :=
  (Any.Builder_String_any_f bsLay bsExtra B b l w h hBw).mono fun e w' q => ⟨q.1, q.2.2⟩
def book_write.l0 : Nat → List ByteArray → Int → Int → ByteArray → Option (ByteArray)
  | 0, _, _, _, _ => none
  | k + 1, x18, x19, x20, acc => if x20 < x19 then (if 0 ≤ x20 then (if x20 < (x18.length : Int) then (if (rdOf ByteArray.empty x18 x20).size + 1 ≤ 9223372036854775807 then (if acc.size + ((rdOf ByteArray.empty x18 x20) ++ (⟨#[10]⟩ : ByteArray)).size ≤ 140737488355328 then (book_write.l0 k x18 x19 (wrap64 (x20 + 1)) (acc ++ ((rdOf ByteArray.empty x18 x20) ++ (⟨#[10]⟩ : ByteArray)))) else (none)) else (none)) else (none)) else (none)) else (some acc)
def book_write.f (k : Nat) (l0 : List ByteArray) : Option (ByteArray) := (strconv_Itoa_50.f (l0.length : Int)).bind fun t134 => (if 6 + t134.size ≤ 9223372036854775807 then (if ((⟨#[112, 97, 103, 101, 115, 32]⟩ : ByteArray) ++ t134).size + 1 ≤ 9223372036854775807 then ((book_leaves.f k l0).bind fun t135 => ((book_root.f k t135).bind fun t138 => ((strconv_Itoa_50.f t138).bind fun t139 => (if (((⟨#[112, 97, 103, 101, 115, 32]⟩ : ByteArray) ++ t134) ++ (⟨#[32]⟩ : ByteArray)).size + t139.size ≤ 9223372036854775807 then (if ((((⟨#[112, 97, 103, 101, 115, 32]⟩ : ByteArray) ++ t134) ++ (⟨#[32]⟩ : ByteArray)) ++ t139).size + 1 ≤ 9223372036854775807 then (if (((((⟨#[112, 97, 103, 101, 115, 32]⟩ : ByteArray) ++ t134) ++ (⟨#[32]⟩ : ByteArray)) ++ t139) ++ (⟨#[10]⟩ : ByteArray)).size ≤ 140737488355328 then (book_write.l0 k l0 (l0.length : Int) 0 (((((⟨#[112, 97, 103, 101, 115, 32]⟩ : ByteArray) ++ t134) ++ (⟨#[32]⟩ : ByteArray)) ++ t139) ++ (⟨#[10]⟩ : ByteArray))) else (none)) else (none)) else (none))))) else (none)) else (none))
set_option maxHeartbeats 8000000 in
set_option maxRecDepth 100000 in
theorem book_write.calls (k : Nat) (A0 : Option Addr) (c0 : Nat) (l0 : List ByteArray) (r : ByteArray) (w : World) (hE : Env w) (hr0 : Kd.C Kd.string w A0 l0.length l0) (hc0 : l0.length ≤ c0) (h : book_write.f k l0 = some r) :
    Calls Tryd.prog 33 #[.slice A0 l0.length c0] w fun e w' => e = .returned (.string r) ∧ Below w.heap.size w w' := by
  have HR0 := Aside0.mk hr0
  have HC0 := Aside0.mk hc0
  clear hr0 hc0
  have HB := Aside0.mk (Below.refl w.heap.size w)
  have H : ((strconv_Itoa_50.f (l0.length : Int)).bind fun t134 => (if 6 + t134.size ≤ 9223372036854775807 then (if ((⟨#[112, 97, 103, 101, 115, 32]⟩ : ByteArray) ++ t134).size + 1 ≤ 9223372036854775807 then ((book_leaves.f k l0).bind fun t135 => ((book_root.f k t135).bind fun t138 => ((strconv_Itoa_50.f t138).bind fun t139 => (if (((⟨#[112, 97, 103, 101, 115, 32]⟩ : ByteArray) ++ t134) ++ (⟨#[32]⟩ : ByteArray)).size + t139.size ≤ 9223372036854775807 then (if ((((⟨#[112, 97, 103, 101, 115, 32]⟩ : ByteArray) ++ t134) ++ (⟨#[32]⟩ : ByteArray)) ++ t139).size + 1 ≤ 9223372036854775807 then (if (((((⟨#[112, 97, 103, 101, 115, 32]⟩ : ByteArray) ++ t134) ++ (⟨#[32]⟩ : ByteArray)) ++ t139) ++ (⟨#[10]⟩ : ByteArray)).size ≤ 140737488355328 then (book_write.l0 k l0 (l0.length : Int) 0 (((((⟨#[112, 97, 103, 101, 115, 32]⟩ : ByteArray) ++ t134) ++ (⟨#[32]⟩ : ByteArray)) ++ t139) ++ (⟨#[10]⟩ : ByteArray))) else (none)) else (none)) else (none))))) else (none)) else (none))) = some r := h
  clear h
  replace H := Option.bind_eq_some_iff.mp H
  obtain ⟨t134, A20, H⟩ := H
  replace H : (if 6 + t134.size ≤ 9223372036854775807 then (if ((⟨#[112, 97, 103, 101, 115, 32]⟩ : ByteArray) ++ t134).size + 1 ≤ 9223372036854775807 then ((book_leaves.f k l0).bind fun t135 => ((book_root.f k t135).bind fun t138 => ((strconv_Itoa_50.f t138).bind fun t139 => (if (((⟨#[112, 97, 103, 101, 115, 32]⟩ : ByteArray) ++ t134) ++ (⟨#[32]⟩ : ByteArray)).size + t139.size ≤ 9223372036854775807 then (if ((((⟨#[112, 97, 103, 101, 115, 32]⟩ : ByteArray) ++ t134) ++ (⟨#[32]⟩ : ByteArray)) ++ t139).size + 1 ≤ 9223372036854775807 then (if (((((⟨#[112, 97, 103, 101, 115, 32]⟩ : ByteArray) ++ t134) ++ (⟨#[32]⟩ : ByteArray)) ++ t139) ++ (⟨#[10]⟩ : ByteArray)).size ≤ 140737488355328 then (book_write.l0 k l0 (l0.length : Int) 0 (((((⟨#[112, 97, 103, 101, 115, 32]⟩ : ByteArray) ++ t134) ++ (⟨#[32]⟩ : ByteArray)) ++ t139) ++ (⟨#[10]⟩ : ByteArray))) else (none)) else (none)) else (none))))) else (none)) else (none)) = some r := H
  have A2 := Aside0.mk A20
  clear A20
  by_cases c3 : 6 + t134.size ≤ 9223372036854775807
  · rw [if_pos c3] at H
    have c3b0 := eq_true c3
    have c3b1 : decide (6 + t134.size ≤ 9223372036854775807) = true := decide_eq_true c3
    try have c3b2 : (9223372036854775807 < 6 + t134.size) = False := eq_false (Nat.not_lt.2 c3)
    by_cases c4 : ((⟨#[112, 97, 103, 101, 115, 32]⟩ : ByteArray) ++ t134).size + 1 ≤ 9223372036854775807
    · rw [if_pos c4] at H
      have c4b0 := eq_true c4
      have c4b1 : decide (((⟨#[112, 97, 103, 101, 115, 32]⟩ : ByteArray) ++ t134).size + 1 ≤ 9223372036854775807) = true := decide_eq_true c4
      try have c4b2 : (9223372036854775807 < ((⟨#[112, 97, 103, 101, 115, 32]⟩ : ByteArray) ++ t134).size + 1) = False := eq_false (Nat.not_lt.2 c4)
      try have c4b3 : (9223372036854775807 < 6 + t134.size + 1) = False := eq_false (by have z_ := c4; simp only [ByteArray.size_append, show (⟨#[112, 97, 103, 101, 115, 32]⟩ : ByteArray).size = 6 from rfl] at z_; omega)
      replace H := Option.bind_eq_some_iff.mp H
      obtain ⟨t135, A50, H⟩ := H
      replace H : ((book_root.f k t135).bind fun t138 => ((strconv_Itoa_50.f t138).bind fun t139 => (if (((⟨#[112, 97, 103, 101, 115, 32]⟩ : ByteArray) ++ t134) ++ (⟨#[32]⟩ : ByteArray)).size + t139.size ≤ 9223372036854775807 then (if ((((⟨#[112, 97, 103, 101, 115, 32]⟩ : ByteArray) ++ t134) ++ (⟨#[32]⟩ : ByteArray)) ++ t139).size + 1 ≤ 9223372036854775807 then (if (((((⟨#[112, 97, 103, 101, 115, 32]⟩ : ByteArray) ++ t134) ++ (⟨#[32]⟩ : ByteArray)) ++ t139) ++ (⟨#[10]⟩ : ByteArray)).size ≤ 140737488355328 then (book_write.l0 k l0 (l0.length : Int) 0 (((((⟨#[112, 97, 103, 101, 115, 32]⟩ : ByteArray) ++ t134) ++ (⟨#[32]⟩ : ByteArray)) ++ t139) ++ (⟨#[10]⟩ : ByteArray))) else (none)) else (none)) else (none)))) = some r := H
      have A5 := Aside0.mk A50
      clear A50
      replace H := Option.bind_eq_some_iff.mp H
      obtain ⟨t138, A60, H⟩ := H
      replace H : ((strconv_Itoa_50.f t138).bind fun t139 => (if (((⟨#[112, 97, 103, 101, 115, 32]⟩ : ByteArray) ++ t134) ++ (⟨#[32]⟩ : ByteArray)).size + t139.size ≤ 9223372036854775807 then (if ((((⟨#[112, 97, 103, 101, 115, 32]⟩ : ByteArray) ++ t134) ++ (⟨#[32]⟩ : ByteArray)) ++ t139).size + 1 ≤ 9223372036854775807 then (if (((((⟨#[112, 97, 103, 101, 115, 32]⟩ : ByteArray) ++ t134) ++ (⟨#[32]⟩ : ByteArray)) ++ t139) ++ (⟨#[10]⟩ : ByteArray)).size ≤ 140737488355328 then (book_write.l0 k l0 (l0.length : Int) 0 (((((⟨#[112, 97, 103, 101, 115, 32]⟩ : ByteArray) ++ t134) ++ (⟨#[32]⟩ : ByteArray)) ++ t139) ++ (⟨#[10]⟩ : ByteArray))) else (none)) else (none)) else (none))) = some r := H
      have A6 := Aside0.mk A60
      clear A60
      replace H := Option.bind_eq_some_iff.mp H
      obtain ⟨t139, A70, H⟩ := H
      replace H : (if (((⟨#[112, 97, 103, 101, 115, 32]⟩ : ByteArray) ++ t134) ++ (⟨#[32]⟩ : ByteArray)).size + t139.size ≤ 9223372036854775807 then (if ((((⟨#[112, 97, 103, 101, 115, 32]⟩ : ByteArray) ++ t134) ++ (⟨#[32]⟩ : ByteArray)) ++ t139).size + 1 ≤ 9223372036854775807 then (if (((((⟨#[112, 97, 103, 101, 115, 32]⟩ : ByteArray) ++ t134) ++ (⟨#[32]⟩ : ByteArray)) ++ t139) ++ (⟨#[10]⟩ : ByteArray)).size ≤ 140737488355328 then (book_write.l0 k l0 (l0.length : Int) 0 (((((⟨#[112, 97, 103, 101, 115, 32]⟩ : ByteArray) ++ t134) ++ (⟨#[32]⟩ : ByteArray)) ++ t139) ++ (⟨#[10]⟩ : ByteArray))) else (none)) else (none)) else (none)) = some r := H
      have A7 := Aside0.mk A70
      clear A70
      by_cases c8 : (((⟨#[112, 97, 103, 101, 115, 32]⟩ : ByteArray) ++ t134) ++ (⟨#[32]⟩ : ByteArray)).size + t139.size ≤ 9223372036854775807
      · rw [if_pos c8] at H
        have c8b0 := eq_true c8
        have c8b1 : decide ((((⟨#[112, 97, 103, 101, 115, 32]⟩ : ByteArray) ++ t134) ++ (⟨#[32]⟩ : ByteArray)).size + t139.size ≤ 9223372036854775807) = true := decide_eq_true c8
        try have c8b2 : (9223372036854775807 < (((⟨#[112, 97, 103, 101, 115, 32]⟩ : ByteArray) ++ t134) ++ (⟨#[32]⟩ : ByteArray)).size + t139.size) = False := eq_false (Nat.not_lt.2 c8)
        try have c8b3 : (9223372036854775807 < 6 + t134.size + 1 + t139.size) = False := eq_false (by have z_ := c8; simp only [ByteArray.size_append, show (⟨#[112, 97, 103, 101, 115, 32]⟩ : ByteArray).size = 6 from rfl, show (⟨#[32]⟩ : ByteArray).size = 1 from rfl] at z_; omega)
        by_cases c9 : ((((⟨#[112, 97, 103, 101, 115, 32]⟩ : ByteArray) ++ t134) ++ (⟨#[32]⟩ : ByteArray)) ++ t139).size + 1 ≤ 9223372036854775807
        · rw [if_pos c9] at H
          have c9b0 := eq_true c9
          have c9b1 : decide (((((⟨#[112, 97, 103, 101, 115, 32]⟩ : ByteArray) ++ t134) ++ (⟨#[32]⟩ : ByteArray)) ++ t139).size + 1 ≤ 9223372036854775807) = true := decide_eq_true c9
          try have c9b2 : (9223372036854775807 < ((((⟨#[112, 97, 103, 101, 115, 32]⟩ : ByteArray) ++ t134) ++ (⟨#[32]⟩ : ByteArray)) ++ t139).size + 1) = False := eq_false (Nat.not_lt.2 c9)
          try have c9b3 : (9223372036854775807 < 6 + t134.size + 1 + t139.size + 1) = False := eq_false (by have z_ := c9; simp only [ByteArray.size_append, show (⟨#[112, 97, 103, 101, 115, 32]⟩ : ByteArray).size = 6 from rfl, show (⟨#[32]⟩ : ByteArray).size = 1 from rfl] at z_; omega)
          have c10 : (((((⟨#[112, 97, 103, 101, 115, 32]⟩ : ByteArray) ++ t134) ++ (⟨#[32]⟩ : ByteArray)) ++ t139) ++ (⟨#[10]⟩ : ByteArray)).size ≤ 140737488355328 := Decidable.byContradiction fun q => by rw [if_neg q] at H; exact absurd H (by simp)
          rw [if_pos c10] at H
          have LM10 := Aside0.mk c10
          clear c10
          have HU := Aside0.mk (show Lib.IsBuilderF 78 5 w.heap.size w.heap.size (Lib.byteCells ([] : List UInt8)) _ from Lib.IsBuilderF.of (Lib.fresh_isBuilder 78 5 w))
          have H' := Aside0.mk H
          clear H
          go_enter Tryd.func33, Tryd.ntmps33
          go_wp2_with (first | ((with_reducible refine gate_callee (f := 50) rfl ?_); refine goesL_ (some 8) rfl rfl Tryd.func50 (by kernel_rfl) rfl #[.int .i64 (l0.length : Int)] rfl (by (try simp only [List.map_toArray, List.map_cons, List.map_nil]); first | done | rfl | (simp only [List.length_drop, List.length_take]; rfl)) ?_; (with_reducible refine (strconv_Itoa_50.calls (l0.length : Int) t134 _ (Env.below hE (by repeat (first | (with_reducible first | exact HB.out | apply below_alloc | apply pw_below_drewN | apply below_drew1) | exact HB.out))) A2.out).mono ?_); rintro e w11 ⟨rfl, hb⟩; refine ⟨_, rfl, ?_⟩; have hu_ := Aside0.mk (builder_below HU.out hb); clear HU; have HU := hu_; clear hu_; have n0_ := Aside0.mk (below_step (by repeat (first | (with_reducible first | exact HB.out | apply below_alloc | apply pw_below_drewN | apply below_drew1) | exact HB.out)) hb); clear HB; have HB := n0_; clear n0_; (try clear hb); (try clear hb2); (try clear hk); (try clear hi)) | ((with_reducible refine gate_callee (f := 27) rfl ?_); refine goesL_ (some 12) rfl rfl Tryd.func27 (by kernel_rfl) rfl #[.slice A0 l0.length c0] rfl (by (try simp only [List.map_toArray, List.map_cons, List.map_nil]); first | done | rfl | (simp only [List.length_drop, List.length_take]; rfl)) ?_; (with_reducible refine (book_leaves.calls k _ _ l0 t135 _ ?side1 ?side2 A5.out).mono ?_); (case side1 => repeat (first | exact (Kd.C_below HR0.out HB.out) | (with_reducible refine Kd.C_alloc ?_ _) | (with_reducible refine Kd.C_drewN ?_ _) | (with_reducible refine Kd.C_drew ?_))); (case side2 => exact HC0.out); rintro e w12 ⟨v136, rfl, ho0, hb⟩; refine ⟨_, rfl, ?_⟩; have hu_ := Aside0.mk (builder_below HU.out hb); clear HU; have HU := hu_; clear hu_; have n0_ := Aside0.mk (Kd.R_lower ho0 (below_size (by repeat (first | (with_reducible first | exact HB.out | apply below_alloc | apply pw_below_drewN | apply below_drew1) | exact HB.out)))); have n1_ := Aside0.mk (below_step (by repeat (first | (with_reducible first | exact HB.out | apply below_alloc | apply pw_below_drewN | apply below_drew1) | exact HB.out)) hb); clear HB; have HO137 := n0_; have HB := n1_; clear n0_ n1_; (try clear hb); (try clear hb2); (try clear hk); (try clear hi); (try clear ho0); obtain ⟨Ao13, co13, eo13⟩ := Kd.R_slice HO137.out; subst eo13) | ((with_reducible refine gate_callee (f := 26) rfl ?_); refine goesL_ (some 13) rfl rfl Tryd.func26 (by kernel_rfl) rfl #[.slice Ao13 t135.length co13] rfl (by (try simp only [List.map_toArray, List.map_cons, List.map_nil]); first | done | rfl | (simp only [List.length_drop, List.length_take]; rfl)) ?_; (with_reducible refine (book_root.calls k _ _ t135 t138 _ ?side1 ?side2 A6.out).mono ?_); (case side1 => repeat (first | exact (Kd.R_reads' HO137.out).2.2 | (with_reducible refine Kd.C_alloc ?_ _) | (with_reducible refine Kd.C_drewN ?_ _) | (with_reducible refine Kd.C_drew ?_))); (case side2 => exact (Kd.R_reads' HO137.out).2.1); rintro e w14 ⟨rfl, hb⟩; refine ⟨_, rfl, ?_⟩; have hu_ := Aside0.mk (builder_below HU.out hb); clear HU; have HU := hu_; clear hu_; have n0_ := Aside0.mk (Kd.R_below (by (with_reducible repeat (first | apply Kd.R_alloc | apply Kd.R_drewN | apply Kd.R_drew)); exact HO137.out) hb); have n1_ := Aside0.mk (below_step (by repeat (first | (with_reducible first | exact HB.out | apply below_alloc | apply pw_below_drewN | apply below_drew1) | exact HB.out)) hb); clear HO137; clear HB; have HO137 := n0_; have HB := n1_; clear n0_ n1_; (try clear hb); (try clear hb2); (try clear hk); (try clear hi)) | ((with_reducible refine gate_callee (f := 50) rfl ?_); refine goesL_ (some 14) rfl rfl Tryd.func50 (by kernel_rfl) rfl #[.int .i64 t138] rfl (by (try simp only [List.map_toArray, List.map_cons, List.map_nil]); first | done | rfl | (simp only [List.length_drop, List.length_take]; rfl)) ?_; (with_reducible refine (strconv_Itoa_50.calls t138 t139 _ (Env.below hE (by repeat (first | (with_reducible first | exact HB.out | apply below_alloc | apply pw_below_drewN | apply below_drew1) | exact HB.out))) A7.out).mono ?_); rintro e w15 ⟨rfl, hb⟩; refine ⟨_, rfl, ?_⟩; have hu_ := Aside0.mk (builder_below HU.out hb); clear HU; have HU := hu_; clear hu_; have n0_ := Aside0.mk (Kd.R_below (by (with_reducible repeat (first | apply Kd.R_alloc | apply Kd.R_drewN | apply Kd.R_drew)); exact HO137.out) hb); have n1_ := Aside0.mk (below_step (by repeat (first | (with_reducible first | exact HB.out | apply below_alloc | apply pw_below_drewN | apply below_drew1) | exact HB.out)) hb); clear HO137; clear HB; have HO137 := n0_; have HB := n1_; clear n0_ n1_; (try clear hb); (try clear hb2); (try clear hk); (try clear hi)) | (go_at_call 49; (with_reducible refine (writeS_at w.heap.size w.heap.size [] (((((⟨#[112, 97, 103, 101, 115, 32]⟩ : ByteArray) ++ t134) ++ (⟨#[32]⟩ : ByteArray)) ++ t139) ++ (⟨#[10]⟩ : ByteArray)) _ HU.out ?hl ?hw).mono ?_); (case hl => exact (by rw [List.length_nil, Nat.zero_add]; exact LM10.out)); (case hw => exact below_size (by repeat (first | (with_reducible first | exact HB.out | apply below_alloc | apply pw_below_drewN | apply below_drew1) | exact HB.out))); rintro e wz ⟨rfl, hu_, hb⟩; have n0_ := Aside0.mk (Below.trans (by repeat (first | (with_reducible first | exact HB.out | apply below_alloc | apply pw_below_drewN | apply below_drew1) | exact HB.out)) hb); have n1_ := Aside0.mk hu_; clear HB HU hb hu_; have HB := n0_; have HU := n1_; clear n0_ n1_))
          go_loopg [20] k (fun kq v20 w' => ∃ (x20_1 : Int) (acc_1 : ByteArray), v20 = .int .i64 x20_1 ∧ Aside0 (book_write.l0 kq l0 (l0.length : Int) x20_1 acc_1 = some r) ∧ Aside0 (kq ≤ k) ∧ Aside0 (Lib.IsBuilderF 78 5 w.heap.size w.heap.size (Lib.byteCells acc_1.data.toList) w') ∧ Aside0 (Below w.heap.size w w'))
          case atStart => exact ⟨(0), (((((⟨#[112, 97, 103, 101, 115, 32]⟩ : ByteArray) ++ t134) ++ (⟨#[32]⟩ : ByteArray)) ++ t139) ++ (⟨#[10]⟩ : ByteArray)), (by first | rfl | (simp; done) | (simp [*]; done)), H', ⟨Nat.le_refl _⟩, HU, ⟨by repeat (first | (with_reducible first | exact HB.out | apply below_alloc | apply pw_below_drewN | apply below_drew1) | exact HB.out)⟩⟩
          case round =>
            clear H'
            try clear c2
            try clear p2
            try clear c3
            try clear c3b0
            try clear c3b1
            try clear c3b2
            try clear c4
            try clear c4b0
            try clear c4b1
            try clear c4b2
            try clear c5
            try clear c8
            try clear c8b0
            try clear c8b1
            try clear c8b2
            try clear c9
            try clear c9b0
            try clear c9b1
            try clear c9b2
            try clear LM10
            try clear HU
            obtain ⟨x20_1, acc_1, rfl, HA, HK1, HU, HB⟩ := hrel
            cases gk with
            | zero => exact absurd HA.out (by simp [book_write.l0])
            | succ k1 =>
              have H := HA.out
              clear HA
              simp only [book_write.l0] at H
              by_cases c16 : x20_1 < (l0.length : Int)
              · rw [if_pos c16] at H
                have c16b0 : decide (x20_1 < (l0.length : Int)) = true := decide_eq_true c16
                clear c16
                by_cases c17 : 0 ≤ x20_1
                · rw [if_pos c17] at H
                  have c17b0 : decide (0 ≤ x20_1) = true := decide_eq_true c17
                  clear c17
                  by_cases c18 : x20_1 < (l0.length : Int)
                  · rw [if_pos c18] at H
                    have c18b0 : decide (x20_1 < (l0.length : Int)) = true := decide_eq_true c18
                    clear c18
                    by_cases c19 : (rdOf ByteArray.empty l0 x20_1).size + 1 ≤ 9223372036854775807
                    · rw [if_pos c19] at H
                      have c19b0 := eq_true c19
                      have c19b1 : decide ((rdOf ByteArray.empty l0 x20_1).size + 1 ≤ 9223372036854775807) = true := decide_eq_true c19
                      try have c19b2 : (9223372036854775807 < (rdOf ByteArray.empty l0 x20_1).size + 1) = False := eq_false (Nat.not_lt.2 c19)
                      have c20 : acc_1.size + ((rdOf ByteArray.empty l0 x20_1) ++ (⟨#[10]⟩ : ByteArray)).size ≤ 140737488355328 := Decidable.byContradiction fun q => by rw [if_neg q] at H; exact absurd H (by simp)
                      rw [if_pos c20] at H
                      have LM20 := Aside0.mk c20
                      clear c20
                      have H' := Aside0.mk H
                      clear H
                      have p141 : 0 ≤ (x20_1 : Int) := of_decide_eq_true (by first | (with_reducible assumption) | assumption)
                      have q141 : x20_1 < (l0.length : Int) := of_decide_eq_true (by first | (with_reducible assumption) | assumption)
                      obtain ⟨ad141, e141, hx141_0⟩ := Kd.at_string HR0.out x20_1 p141 q141
                      cases e141
                      replace hx141_0 := (HB.out.cell (World.block_lt_of_cell? w _ hx141_0)).trans hx141_0
                      replace p141 := eq_true p141
                      replace q141 := eq_true q141
                      go_wp2_with (first | (go_at_call 49; (with_reducible refine (writeS_at w.heap.size w.heap.size acc_1.data.toList ((rdOf ByteArray.empty l0 x20_1) ++ (⟨#[10]⟩ : ByteArray)) _ HU.out ?hl ?hw).mono ?_); (case hl => exact (by rw [data_length]; exact LM20.out)); (case hw => exact below_size (by repeat (first | (with_reducible first | exact HB.out | apply below_alloc | apply pw_below_drewN | apply below_drew1) | exact HB.out))); rintro e wz ⟨rfl, hu_, hb⟩; have n0_ := Aside0.mk (Below.trans (by repeat (first | (with_reducible first | exact HB.out | apply below_alloc | apply pw_below_drewN | apply below_drew1) | exact HB.out)) hb); have n1_ := Aside0.mk hu_; clear HB HU hb hu_; have HB := n0_; have HU := n1_; clear n0_ n1_))
                      go_roundg k1
                      case measure => have := HK1.out; omega
                      case rel => exact ⟨(wrap64 (x20_1 + 1)), (acc_1 ++ ((rdOf ByteArray.empty l0 x20_1) ++ (⟨#[10]⟩ : ByteArray))), (by first | rfl | (simp; done) | (simp [*]; done)), H', ⟨by have := HK1.out; omega⟩, ⟨by rw [show (acc_1 ++ ((rdOf ByteArray.empty l0 x20_1) ++ (⟨#[10]⟩ : ByteArray))).data.toList = acc_1.data.toList ++ ((rdOf ByteArray.empty l0 x20_1) ++ (⟨#[10]⟩ : ByteArray)).data.toList by simp]; exact HU.out⟩, ⟨by repeat (first | (with_reducible first | exact HB.out | apply below_alloc | apply pw_below_drewN | apply below_drew1) | exact HB.out)⟩⟩
                    · rw [if_neg c19] at H
                      exact absurd H (by simp)
                  · rw [if_neg c18] at H
                    exact absurd H (by simp)
                · rw [if_neg c17] at H
                  exact absurd H (by simp)
              · rw [if_neg c16] at H
                have c16b0 : decide (x20_1 < (l0.length : Int)) = false := decide_eq_false c16
                clear c16
                obtain rfl := Option.some.inj H
                go_wp2_with (first | (go_at_call 51; (with_reducible refine (stringS_at w.heap.size w.heap.size acc_1.data.toList _ HU.out ?hw).mono ?_); (case hw => exact below_size (by repeat (first | (with_reducible first | exact HB.out | apply below_alloc | apply pw_below_drewN | apply below_drew1) | exact HB.out))); rintro e wz ⟨rfl, hb⟩; have n0_ := Aside0.mk (Below.trans (by repeat (first | (with_reducible first | exact HB.out | apply below_alloc | apply pw_below_drewN | apply below_drew1) | exact HB.out)) hb); clear HB HU hb; have HB := n0_; clear n0_))
                go_ret
                exact ⟨by first | rfl | (simp; done) | (simp [errW_none, errW_some] <;> rfl) | (simp [*, errW_none, errW_some] <;> rfl), by repeat (first | (with_reducible first | exact HB.out | apply below_alloc | apply pw_below_drewN | apply below_drew1) | exact HB.out)⟩
        · rw [if_neg c9] at H
          exact absurd H (by simp)
      · rw [if_neg c8] at H
        exact absurd H (by simp)
    · rw [if_neg c4] at H
      exact absurd H (by simp)
  · rw [if_neg c3] at H
    exact absurd H (by simp)

end Go.Proofs.YtfccgfjiplnmfaaDoor.BA

