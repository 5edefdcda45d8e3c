/- Of the text STx16, what the row of ScreenTexts reaches. -/
import Derived.Test.YtjiheojjfnfmaaaDoorZScreenTextsSTx0
import Derived.Shelf.Strings.BuilderF
namespace Go.Proofs.YtjiheojjfnfmaaaDoor.ST
open Go.RowKit Go.Proofs.YtjiheojjfnfmaaaDoorW.PrintWords Go.Proofs.YtjiheojjfnfmaaaDoorW.PrintLast Go.Proofs.YtjiheojjfnfmaaaDoorW.PrintMore
attribute [local go_sem] max2_int min2_int max_two min_two max_three min_three max_four min_four   -- for this text's walks alone
set_option linter.unusedVariables false
set_option linter.unusedSimpArgs false

def wsLay_ren : Go.Shelf.Ren := ⟨fun | 166 => 21 | 240 => 41 | 276 => 62 | n => n, fun | 70 => 50 | 9 => 9 | 3 => 3 | 75 => 55 | 0 => 0 | 72 => 53 | 37 => 51 | 4 => 4 | 164 => 95 | 80 => 59 | 5 => 5 | n => n, fun | n => n⟩
theorem wsLay : Go.Proofs.Lays.n166 Tryd.prog wsLay_ren where
  mixed := by kernel_rfl
  f166 := Tryd.func21.trans (congrArg some (by kernel_rfl))
  f240 := Tryd.func41.trans (congrArg some (by kernel_rfl))
  f276 := Tryd.func62.trans (congrArg some (by kernel_rfl))
  t0 := Tryd.underlying0
  a0 := Tryd.isAgg0
  z0 := Tryd.sizeOf0
  v0 := Tryd.zeroValue0
  t3 := Tryd.underlying3
  a3 := Tryd.isAgg3
  z3 := Tryd.sizeOf3
  v3 := Tryd.zeroValue3
  t4 := Tryd.underlying4
  a4 := Tryd.isAgg4
  z4 := Tryd.sizeOf4
  v4 := Tryd.zeroValue4
  t9 := Tryd.underlying9
  a9 := Tryd.isAgg9
  z9 := Tryd.sizeOf9
  v9 := Tryd.zeroValue9
  t20 := Tryd.underlying20
  a20 := Tryd.isAgg20
  z20 := Tryd.sizeOf20
  v20 := Tryd.zeroValue20
  t37 := Tryd.underlying51
  a37 := Tryd.isAgg51
  z37 := Tryd.sizeOf51
  v37 := Tryd.zeroValue51
  t70 := Tryd.underlying50
  a70 := Tryd.isAgg50
  z70 := Tryd.sizeOf50
  v70 := Tryd.zeroValue50
  t72 := Tryd.underlying53
  a72 := Tryd.isAgg53
  z72 := Tryd.sizeOf53
  v72 := Tryd.zeroValue53
  t75 := Tryd.underlying55
  a75 := Tryd.isAgg55
  z75 := Tryd.sizeOf55
  v75 := Tryd.zeroValue55
  t164 := Tryd.underlying95
  a164 := Tryd.isAgg95
  z164 := Tryd.sizeOf95
  v164 := Tryd.zeroValue95
def bsLay_ren : Go.Shelf.Ren := ⟨fun | 169 => 23 | n => n, fun | 70 => 50 | 9 => 9 | 0 => 0 | 72 => 53 | 37 => 51 | 127 => 80 | 3 => 3 | 5 => 5 | n => n, fun | n => n⟩
theorem bsLay : Go.Proofs.Lays.n169 Tryd.prog bsLay_ren where
  mixed := by kernel_rfl
  f169 := Tryd.func23.trans (congrArg some (by kernel_rfl))
  t0 := Tryd.underlying0
  a0 := Tryd.isAgg0
  z0 := Tryd.sizeOf0
  v0 := Tryd.zeroValue0
  t3 := Tryd.underlying3
  a3 := Tryd.isAgg3
  z3 := Tryd.sizeOf3
  v3 := Tryd.zeroValue3
  t9 := Tryd.underlying9
  a9 := Tryd.isAgg9
  z9 := Tryd.sizeOf9
  v9 := Tryd.zeroValue9
  t37 := Tryd.underlying51
  a37 := Tryd.isAgg51
  z37 := Tryd.sizeOf51
  v37 := Tryd.zeroValue51
  t70 := Tryd.underlying50
  a70 := Tryd.isAgg50
  z70 := Tryd.sizeOf50
  v70 := Tryd.zeroValue50
  t72 := Tryd.underlying53
  a72 := Tryd.isAgg53
  z72 := Tryd.sizeOf53
  v72 := Tryd.zeroValue53
  t127 := Tryd.underlying80
  a127 := Tryd.isAgg80
  z127 := Tryd.sizeOf80
  v127 := Tryd.zeroValue80
theorem wsExtra : Builder.Extra Tryd.prog wsLay_ren where
  sizeBuilder := by kernel_rfl
  liesBuilder := by kernel_rfl
  t5 := Tryd.underlying5
  a5 := Tryd.isAgg5
  z5 := Tryd.sizeOf5
  v5 := Tryd.zeroValue5
  infoByte := by kernel_rfl
  cellsByte := by kernel_rfl
  sizeByte := by kernel_rfl
  neB5 := by decide
theorem bsExtra : Builder.Extra Tryd.prog bsLay_ren where
  sizeBuilder := by kernel_rfl
  liesBuilder := by kernel_rfl
  t5 := Tryd.underlying5
  a5 := Tryd.isAgg5
  z5 := Tryd.sizeOf5
  v5 := Tryd.zeroValue5
  infoByte := by kernel_rfl
  cellsByte := by kernel_rfl
  sizeByte := by kernel_rfl
  neB5 := by decide
theorem builderAt_below {T e : TypeId} {B b : Nat} {p : Value} {bs : List Value} {W W' : World} (h : Lib.BuilderAtF T e B b p bs W) (hb : Below W.heap.size W W') : Lib.BuilderAtF T e B b p bs W' := by
  have hlt := h.lt
  obtain ⟨hB, v, hv, hown, hne⟩ := h
  exact ⟨hB, v, (hb.block b hlt).trans hv, hown.kept (row := none) ⟨hb.os, hb.tape, hb.output, hb.size, fun k hk _ => hb.block k hk⟩ (Classical.em _), hne⟩
theorem builder_below {T e : TypeId} {B b : Nat} {bs : List Value} {W W' : World} (h : Lib.IsBuilderF T e B b bs W) (hb : Below W.heap.size W W') : Lib.IsBuilderF T e B b bs W' :=
  h.elim (fun x => .inl (builderAt_below x hb)) (fun x => .inr (builderAt_below x hb))
/-- a Builder of one's own at block g holds the text x -/
def IsB (g : Nat) (x : ByteArray) (w : World) : Prop := Lib.IsBuilderF 53 5 g g (Lib.byteCells x.data.toList) w
theorem isB_new {g : Nat} {w : World} (h : w.heap[g]? = some (.cells #[.pointer none, .slice none 0 0] 53 (0, 0))) : IsB g ⟨#[]⟩ w :=
  Lib.IsBuilderF.of (Or.inl ⟨Nat.le_refl _, .slice none 0 0, h, World.ownsRow_nil _ _ _ _, by simp [Value.ownBlock]⟩)
theorem blk_lt {W : World} {g : Nat} {o : Obj} (h : W.heap[g]? = some o) : g < W.heap.size := (Array.getElem?_eq_some_iff.1 h).1
theorem isB_lt {g : Nat} {x : ByteArray} {w : World} (h : IsB g x w) : g < w.heap.size := h.elim (fun z => z.lt) (fun z => z.lt)
theorem isB_below {g : Nat} {x : ByteArray} {w w' : World} (h : IsB g x w) (hb : Below w.heap.size w w') : IsB g x w' := builder_below h hb
theorem writeB (g : Nat) (x s : ByteArray) (w : World) (h : IsB g x w) (hlen : x.size + s.size ≤ 140737488355328) :
    Calls Tryd.prog 21 #[.pointer (some ⟨g, 0, none⟩), .string s] w fun e w' => e = .returned (.tuple #[.int .i64 s.size, .nilIface]) ∧ IsB g (x ++ s) w' ∧ Below g w w' :=
  (Any.Builder_WriteString_f wsLay wsExtra g g (Lib.byteCells x.data.toList) s w h (by rw [Lib.byteCells_length, data_length]; exact hlen) (Nat.le_of_lt (isB_lt h))).mono fun e w' q => ⟨q.1, by
    have h1 := q.2.1
    rw [Lib.strCells_eq, ← Lib.byteCells_append, show x.data.toList ++ s.data.toList = (x ++ s).data.toList by simp] at h1
    exact Or.inr h1, q.2.2⟩
theorem stringB (g : Nat) (x : ByteArray) (w : World) (h : IsB g x w) :
    Calls Tryd.prog 23 #[.pointer (some ⟨g, 0, none⟩)] w fun e w' => e = .returned (.string x) ∧ Below g w w' :=
  (Any.Builder_String_any_f bsLay bsExtra g g x.data.toList w h (Nat.le_of_lt (isB_lt h))).mono fun e w' q => ⟨q.1, q.2.2⟩

end Go.Proofs.YtjiheojjfnfmaaaDoor.ST

