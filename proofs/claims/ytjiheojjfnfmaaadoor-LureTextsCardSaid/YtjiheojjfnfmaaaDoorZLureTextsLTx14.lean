/- Of the text LTx14, what the row of LureTexts reaches. -/
import Derived.Test.YtjiheojjfnfmaaaDoorZLureTextsLTx0
import Derived.Shelf.Strconv.Itoa3
import Derived.Shelf.Strconv.AtoiAll
import Derived.Shelf.Strconv.ErrVarAll
import Derived.Lib.SmallJoins
namespace Go.Proofs.YtjiheojjfnfmaaaDoor.LT
open Go.RowKit Go.Proofs.YtjiheojjfnfmaaaDoorW.PrintWords Go.Proofs.YtjiheojjfnfmaaaDoorW.PrintLast Go.Proofs.YtjiheojjfnfmaaaDoorW.PrintMore
attribute [local go_sem] max2_int min2_int max_two min_two max_three min_three max_four min_four   -- for this text's walks alone
set_option linter.unusedVariables false
set_option linter.unusedSimpArgs false

def atLay_ren : Go.Shelf.Ren := ⟨fun | 172 => 29 | 244 => 48 | 245 => 49 | 247 => 70 | 279 => 71 | 280 => 72 | 281 => 73 | 282 => 74 | 287 => 95 | 316 => 96 | 171 => 22 | 205 => 97 | 321 => 111 | 322 => 112 | 243 => 42 | 246 => 63 | 283 => 86 | 284 => 87 | 285 => 88 | 286 => 89 | 129 => 103 | 317 => 102 | 318 => 104 | 319 => 105 | 320 => 106 | 337 => 117 | 338 => 118 | n => n, fun | 9 => 9 | 3 => 3 | 75 => 55 | 76 => 56 | 4 => 4 | 5 => 5 | 167 => 101 | 37 => 51 | 0 => 0 | 85 => 102 | 2 => 2 | 168 => 104 | 53 => 117 | 175 => 125 | 46 => 127 | 210 => 130 | 127 => 80 | 145 => 145 | 143 => 143 | 21 => 21 | 171 => 116 | 173 => 120 | 212 => 138 | 51 => 139 | 20 => 20 | 213 => 140 | 232 => 157 | 233 => 158 | 80 => 59 | n => n, fun | 15 => 0 | 16 => 1 | 17 => 2 | 18 => 6 | 19 => 7 | n => n⟩
theorem atLay : Go.Proofs.LaysC.n172 Tryd.prog atLay_ren where
  mixed := by kernel_rfl
  f129 := Tryd.func103.trans (congrArg some (by kernel_rfl))
  f171 := Tryd.func22.trans (congrArg some (by kernel_rfl))
  f172 := Tryd.func29.trans (congrArg some (by kernel_rfl))
  f205 := Tryd.func97.trans (congrArg some (by kernel_rfl))
  f243 := Tryd.func42.trans (congrArg some (by kernel_rfl))
  f244 := Tryd.func48.trans (congrArg some (by kernel_rfl))
  f245 := Tryd.func49.trans (congrArg some (by kernel_rfl))
  f246 := Tryd.func63.trans (congrArg some (by kernel_rfl))
  f247 := Tryd.func70.trans (congrArg some (by kernel_rfl))
  f279 := Tryd.func71.trans (congrArg some (by kernel_rfl))
  f280 := Tryd.func72.trans (congrArg some (by kernel_rfl))
  f281 := Tryd.func73.trans (congrArg some (by kernel_rfl))
  f282 := Tryd.func74.trans (congrArg some (by kernel_rfl))
  f283 := Tryd.func86.trans (congrArg some (by kernel_rfl))
  f284 := Tryd.func87.trans (congrArg some (by kernel_rfl))
  f285 := Tryd.func88.trans (congrArg some (by kernel_rfl))
  f286 := Tryd.func89.trans (congrArg some (by kernel_rfl))
  f287 := Tryd.func95.trans (congrArg some (by kernel_rfl))
  f316 := Tryd.func96.trans (congrArg some (by kernel_rfl))
  f317 := Tryd.func102.trans (congrArg some (by kernel_rfl))
  f318 := Tryd.func104.trans (congrArg some (by kernel_rfl))
  f319 := Tryd.func105.trans (congrArg some (by kernel_rfl))
  f320 := Tryd.func106.trans (congrArg some (by kernel_rfl))
  f321 := Tryd.func111.trans (congrArg some (by kernel_rfl))
  f322 := Tryd.func112.trans (congrArg some (by kernel_rfl))
  f337 := Tryd.func117.trans (congrArg some (by kernel_rfl))
  f338 := Tryd.func118.trans (congrArg some (by kernel_rfl))
  t0 := Tryd.underlying0
  a0 := Tryd.isAgg0
  z0 := Tryd.sizeOf0
  v0 := Tryd.zeroValue0
  t2 := Tryd.underlying2
  a2 := Tryd.isAgg2
  z2 := Tryd.sizeOf2
  v2 := Tryd.zeroValue2
  t3 := Tryd.underlying3
  a3 := Tryd.isAgg3
  z3 := Tryd.sizeOf3
  v3 := Tryd.zeroValue3
  t4 := Tryd.underlying4
  a4 := Tryd.isAgg4
  z4 := Tryd.sizeOf4
  v4 := Tryd.zeroValue4
  t5 := Tryd.underlying5
  a5 := Tryd.isAgg5
  z5 := Tryd.sizeOf5
  v5 := Tryd.zeroValue5
  t9 := Tryd.underlying9
  a9 := Tryd.isAgg9
  z9 := Tryd.sizeOf9
  v9 := Tryd.zeroValue9
  t20 := Tryd.underlying20
  a20 := Tryd.isAgg20
  z20 := Tryd.sizeOf20
  v20 := Tryd.zeroValue20
  t21 := Tryd.underlying21
  a21 := Tryd.isAgg21
  z21 := Tryd.sizeOf21
  v21 := Tryd.zeroValue21
  t37 := Tryd.underlying51
  a37 := Tryd.isAgg51
  z37 := Tryd.sizeOf51
  v37 := Tryd.zeroValue51
  t46 := Tryd.underlying127
  a46 := Tryd.isAgg127
  z46 := Tryd.sizeOf127
  v46 := Tryd.zeroValue127
  t51 := Tryd.underlying139
  a51 := Tryd.isAgg139
  z51 := Tryd.sizeOf139
  v51 := Tryd.zeroValue139
  t53 := Tryd.underlying117
  a53 := Tryd.isAgg117
  z53 := Tryd.sizeOf117
  v53 := Tryd.zeroValue117
  t75 := Tryd.underlying55
  a75 := Tryd.isAgg55
  z75 := Tryd.sizeOf55
  v75 := Tryd.zeroValue55
  t76 := Tryd.underlying56
  a76 := Tryd.isAgg56
  z76 := Tryd.sizeOf56
  v76 := Tryd.zeroValue56
  t85 := Tryd.underlying102
  a85 := Tryd.isAgg102
  z85 := Tryd.sizeOf102
  v85 := Tryd.zeroValue102
  t127 := Tryd.underlying80
  a127 := Tryd.isAgg80
  z127 := Tryd.sizeOf80
  v127 := Tryd.zeroValue80
  t143 := Tryd.underlying143
  a143 := Tryd.isAgg143
  z143 := Tryd.sizeOf143
  v143 := Tryd.zeroValue143
  t145 := Tryd.underlying145
  a145 := Tryd.isAgg145
  z145 := Tryd.sizeOf145
  v145 := Tryd.zeroValue145
  t167 := Tryd.underlying101
  a167 := Tryd.isAgg101
  z167 := Tryd.sizeOf101
  v167 := Tryd.zeroValue101
  t168 := Tryd.underlying104
  a168 := Tryd.isAgg104
  z168 := Tryd.sizeOf104
  v168 := Tryd.zeroValue104
  t171 := Tryd.underlying116
  a171 := Tryd.isAgg116
  z171 := Tryd.sizeOf116
  v171 := Tryd.zeroValue116
  t173 := Tryd.underlying120
  a173 := Tryd.isAgg120
  z173 := Tryd.sizeOf120
  v173 := Tryd.zeroValue120
  t175 := Tryd.underlying125
  a175 := Tryd.isAgg125
  z175 := Tryd.sizeOf125
  v175 := Tryd.zeroValue125
  t210 := Tryd.underlying130
  a210 := Tryd.isAgg130
  z210 := Tryd.sizeOf130
  v210 := Tryd.zeroValue130
  t212 := Tryd.underlying138
  a212 := Tryd.isAgg138
  z212 := Tryd.sizeOf138
  v212 := Tryd.zeroValue138
  t213 := Tryd.underlying140
  a213 := Tryd.isAgg140
  z213 := Tryd.sizeOf140
  t232 := Tryd.underlying157
  a232 := Tryd.isAgg157
  z232 := Tryd.sizeOf157
  v232 := Tryd.zeroValue157
  t233 := Tryd.underlying158
  a233 := Tryd.isAgg158
  z233 := Tryd.sizeOf158
  v233 := Tryd.zeroValue158
  g15 := by kernel_rfl
  g16 := by kernel_rfl
  g17 := by kernel_rfl
  g18 := by kernel_rfl
  g19 := by kernel_rfl
  t80 := Tryd.underlying59
  a80 := Tryd.isAgg59
  z80 := Tryd.sizeOf59
  v80 := Tryd.zeroValue59
  i0 := by kernel_rfl
  i2 := by kernel_rfl
  i3 := by kernel_rfl
  i4 := by kernel_rfl
  i5 := by kernel_rfl
  i9 := by kernel_rfl
  i20 := by kernel_rfl
  i21 := by kernel_rfl
  i37 := by kernel_rfl
  i46 := by kernel_rfl
  i51 := by kernel_rfl
  i53 := by kernel_rfl
  i75 := by kernel_rfl
  i76 := by kernel_rfl
  i80 := by kernel_rfl
  i85 := by kernel_rfl
  i127 := by kernel_rfl
  i143 := by kernel_rfl
  i145 := by kernel_rfl
  i167 := by kernel_rfl
  i168 := by kernel_rfl
  i171 := by kernel_rfl
  i173 := by kernel_rfl
  i175 := by kernel_rfl
  i210 := by kernel_rfl
  i212 := by kernel_rfl
  i232 := by kernel_rfl
  i233 := by kernel_rfl
  m15 := by kernel_rfl
  m16 := by kernel_rfl
  m17 := by kernel_rfl
  m18 := by kernel_rfl
  m19 := by kernel_rfl
  c0 := by kernel_rfl
  c2 := by kernel_rfl
  c3 := by kernel_rfl
  c4 := by kernel_rfl
  c5 := by kernel_rfl
  c9 := by kernel_rfl
  c20 := by kernel_rfl
  c21 := by kernel_rfl
  c37 := by kernel_rfl
  c46 := by kernel_rfl
  c51 := by kernel_rfl
  c53 := by kernel_rfl
  c75 := by kernel_rfl
  c76 := by kernel_rfl
  c80 := by kernel_rfl
  c85 := by kernel_rfl
  c127 := by kernel_rfl
  c143 := by kernel_rfl
  c145 := by kernel_rfl
  c167 := by kernel_rfl
  c168 := by kernel_rfl
  c171 := by kernel_rfl
  c173 := by kernel_rfl
  c175 := by kernel_rfl
  c210 := by kernel_rfl
  c212 := by kernel_rfl
  c213 := by kernel_rfl
  c232 := by kernel_rfl
  c233 := by kernel_rfl
def itLay_ren : Go.Shelf.Ren := ⟨fun | 171 => 22 | 243 => 42 | 246 => 63 | 283 => 86 | 284 => 87 | 285 => 88 | 286 => 89 | 129 => 103 | 317 => 102 | 318 => 104 | 319 => 105 | 320 => 106 | 337 => 117 | 338 => 118 | n => n, fun | 3 => 3 | 9 => 9 | 2 => 2 | 4 => 4 | 171 => 116 | 0 => 0 | 53 => 117 | 37 => 51 | 5 => 5 | 173 => 120 | 212 => 138 | 51 => 139 | 20 => 20 | 213 => 140 | 46 => 127 | 232 => 157 | 233 => 158 | n => n, fun | 17 => 2 | 18 => 6 | 19 => 7 | n => n⟩
theorem itLay : Go.Proofs.LaysM.n171 Tryd.prog itLay_ren where
  mixed := by kernel_rfl
  f129 := Tryd.func103.trans (congrArg some (by kernel_rfl))
  f171 := Tryd.func22.trans (congrArg some (by kernel_rfl))
  f243 := Tryd.func42.trans (congrArg some (by kernel_rfl))
  f246 := Tryd.func63.trans (congrArg some (by kernel_rfl))
  f283 := Tryd.func86.trans (congrArg some (by kernel_rfl))
  f284 := Tryd.func87.trans (congrArg some (by kernel_rfl))
  f285 := Tryd.func88.trans (congrArg some (by kernel_rfl))
  f286 := Tryd.func89.trans (congrArg some (by kernel_rfl))
  f317 := Tryd.func102.trans (congrArg some (by kernel_rfl))
  f318 := Tryd.func104.trans (congrArg some (by kernel_rfl))
  f319 := Tryd.func105.trans (congrArg some (by kernel_rfl))
  f320 := Tryd.func106.trans (congrArg some (by kernel_rfl))
  f337 := Tryd.func117.trans (congrArg some (by kernel_rfl))
  f338 := Tryd.func118.trans (congrArg some (by kernel_rfl))
  t0 := Tryd.underlying0
  a0 := Tryd.isAgg0
  z0 := Tryd.sizeOf0
  v0 := Tryd.zeroValue0
  t2 := Tryd.underlying2
  a2 := Tryd.isAgg2
  z2 := Tryd.sizeOf2
  v2 := Tryd.zeroValue2
  t3 := Tryd.underlying3
  a3 := Tryd.isAgg3
  z3 := Tryd.sizeOf3
  v3 := Tryd.zeroValue3
  t4 := Tryd.underlying4
  a4 := Tryd.isAgg4
  z4 := Tryd.sizeOf4
  v4 := Tryd.zeroValue4
  t5 := Tryd.underlying5
  a5 := Tryd.isAgg5
  z5 := Tryd.sizeOf5
  v5 := Tryd.zeroValue5
  t9 := Tryd.underlying9
  a9 := Tryd.isAgg9
  z9 := Tryd.sizeOf9
  v9 := Tryd.zeroValue9
  t20 := Tryd.underlying20
  a20 := Tryd.isAgg20
  z20 := Tryd.sizeOf20
  v20 := Tryd.zeroValue20
  t37 := Tryd.underlying51
  a37 := Tryd.isAgg51
  z37 := Tryd.sizeOf51
  v37 := Tryd.zeroValue51
  t46 := Tryd.underlying127
  a46 := Tryd.isAgg127
  z46 := Tryd.sizeOf127
  v46 := Tryd.zeroValue127
  t51 := Tryd.underlying139
  a51 := Tryd.isAgg139
  z51 := Tryd.sizeOf139
  v51 := Tryd.zeroValue139
  t53 := Tryd.underlying117
  a53 := Tryd.isAgg117
  z53 := Tryd.sizeOf117
  v53 := Tryd.zeroValue117
  t171 := Tryd.underlying116
  a171 := Tryd.isAgg116
  z171 := Tryd.sizeOf116
  v171 := Tryd.zeroValue116
  t173 := Tryd.underlying120
  a173 := Tryd.isAgg120
  z173 := Tryd.sizeOf120
  v173 := Tryd.zeroValue120
  t212 := Tryd.underlying138
  a212 := Tryd.isAgg138
  z212 := Tryd.sizeOf138
  v212 := Tryd.zeroValue138
  t213 := Tryd.underlying140
  a213 := Tryd.isAgg140
  z213 := Tryd.sizeOf140
  t232 := Tryd.underlying157
  a232 := Tryd.isAgg157
  z232 := Tryd.sizeOf157
  v232 := Tryd.zeroValue157
  t233 := Tryd.underlying158
  a233 := Tryd.isAgg158
  z233 := Tryd.sizeOf158
  v233 := Tryd.zeroValue158
  g17 := by kernel_rfl
  g18 := by kernel_rfl
  g19 := by kernel_rfl
  i0 := by kernel_rfl
  i2 := by kernel_rfl
  i3 := by kernel_rfl
  i4 := by kernel_rfl
  i5 := by kernel_rfl
  i9 := by kernel_rfl
  i20 := by kernel_rfl
  i37 := by kernel_rfl
  i46 := by kernel_rfl
  i51 := by kernel_rfl
  i53 := by kernel_rfl
  i171 := by kernel_rfl
  i173 := by kernel_rfl
  i212 := by kernel_rfl
  i232 := by kernel_rfl
  i233 := by kernel_rfl
  m17 := by kernel_rfl
  m18 := by kernel_rfl
  m19 := by kernel_rfl
theorem below_grow (w : World) (os : Array Obj) : Below w.heap.size w (Go.Sort.grow w os) :=
  ⟨rfl, rfl, rfl, by simp [Go.Sort.grow], fun k hk => by simp only [Go.Sort.grow]; rw [Array.getElem?_append_left hk]⟩
theorem below_bytes (w : World) (e : TypeId) (t : ByteArray) : Below w.heap.size w (Lib.bytesWorld w e t) :=
  Lib.below_freeze (((Below.refl w.heap.size w).drew).alloc (Nat.le_refl _) _) (Nat.le_refl _) _
/-- the package variables that a call of strconv reads -/
structure Env (w : World) : Prop where
  tab : Lib.TabIs Tryd.prog w "internal/strconv.uint64pow10" .u64 Lib.pow10Tab
  syn : ∃ tp p, w.var? Tryd.prog "strconv.ErrSyntax" = some #[.iface tp p]
  ran : ∃ tp p, w.var? Tryd.prog "strconv.ErrRange" = some #[.iface tp p]
theorem Env.below {w w' : World} (h : Env w) (hb : Below w.heap.size w w') : Env w' :=
  ⟨Go.Joins.tab_stays itLay.m17 h.tab hb (Nat.le_refl _),
   h.syn.imp fun _ => Exists.imp fun _ e => Go.Joins.var_stays atLay.m15 e hb (Nat.le_refl _),
   h.ran.imp fun _ => Exists.imp fun _ e => Go.Joins.var_stays atLay.m16 e hb (Nat.le_refl _)⟩
/-- an error of strconv: none, or one whose text is not asked for -/
def ErrIs (v : Value) (r : Option Int) : Prop := match r with | none => v = .nilIface | some _ => ∃ N, v = .iface 104 (.pointer (some ⟨N, 0, none⟩))
theorem ErrIs.of_none {v : Value} (h : ErrIs v none) : v = .nilIface := h
theorem ErrIs.of_some {v : Value} {c : Int} (h : ErrIs v (some c)) : ∃ N, v = .iface 104 (.pointer (some ⟨N, 0, none⟩)) := h
def strconv_Itoa_22.f (a0 : Int) : Option (ByteArray) := if -9223372036854775808 ≤ a0 ∧ a0 ≤ 9223372036854775807 then some ⟨(Lib.itoa a0).toArray⟩ else none
theorem strconv_Itoa_22.calls (a0 : Int) (r : ByteArray) (w : World) (hE : Env w) (h : strconv_Itoa_22.f a0 = some r) :
    Calls Tryd.prog 22 #[.int .i64 a0] w fun e w' => e = .returned (.string r) ∧ Below w.heap.size w w' := by
  unfold strconv_Itoa_22.f at h
  split at h
  · rename_i z
    obtain rfl := Option.some.inj h
    refine (Any.strconv_Itoa itLay a0 z.1 z.2 w hE.tab).mono fun e w' q => ⟨q.1, ?_⟩
    obtain ⟨_, k, os, rfl⟩ := q
    exact (Go.Joins.below_draws _ w k).trans (below_grow (w.drewN k) os)
  · cases h

end Go.Proofs.YtjiheojjfnfmaaaDoor.LT

