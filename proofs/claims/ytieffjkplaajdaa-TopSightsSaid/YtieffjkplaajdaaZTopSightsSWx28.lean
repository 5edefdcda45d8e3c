/- Of the text SWx28, what the row of TopSights reaches. -/
import Derived.Test.YtieffjkplaajdaaZTopSightsSWx0
import Derived.Test.YtieffjkplaajdaaZTopSightsSWx10
import Derived.Test.YtieffjkplaajdaaZTopSightsSWx12
import Derived.Test.YtieffjkplaajdaaZTopSightsSWx13
import Derived.Test.YtieffjkplaajdaaZTopSightsSWx14
import Derived.Test.YtieffjkplaajdaaZTopSightsSWx15
import Derived.Test.YtieffjkplaajdaaZTopSightsSWx27
import Derived.Maps.OwnSet
import Derived.DeepKeys4
import Derived.MapViews
import Derived.WalkMore
import Derived.Maps.RangeWalk
import Derived.Sort.Grow
import Derived.Shelf.SlLaysF0
import Derived.Shelf.SlSortCmp.NoneTotal
namespace Go.Proofs.Ytieffjkplaajdaa.SW
open Go.RowKit Go.Proofs.YtieffjkplaajdaaW.PrintWords Go.Proofs.YtieffjkplaajdaaW.PrintLast Go.Proofs.YtieffjkplaajdaaW.PrintMore
attribute [local go_sem] max2_int min2_int max_two min_two max_three min_three max_four min_four   -- for this text's walks alone
set_option linter.unusedVariables false
set_option linter.unusedSimpArgs false

open Go.Maps
set_option maxRecDepth 100000
theorem pt_laid : laidOutB Try.prog = true := by kernel_rfl
theorem pt_row : (25 : TypeId) < Try.prog.types.size := of_decide_eq_true (by kernel_rfl)
theorem pt_deep : Try.prog.keyTypeAt (Try.prog.types.size + 1) 25 = true := by kernel_rfl
theorem pt_wide : (match Try.prog.underlying 25 with | some (.array _ _) | some (.struct _) => true | _ => false) = true := by rw [Try.underlying25]
theorem pt_cells : Try.prog.cellsOf 25 = 2 := by kernel_rfl
theorem pt_law : Keyed Try.prog 25 := Keyed.of_law (deep_law_laid pt_laid (m := 2) (by omega) pt_row (by kernel_rfl) pt_wide)
def ptV (p : S25) : Value := .agg #[.int .i64 p.f0, .int .i64 p.f1]
def ptOk (p : S25) : Prop := (Lit.int .i64 p.f0).wf = true ∧ (Lit.int .i64 p.f1).wf = true
instance (p : S25) : Decidable (ptOk p) := inferInstanceAs (Decidable (_ ∧ _))
theorem pt_formed (p : S25) : (ptV p).formed Try.prog 25 = true := by simp [ptV, Value.formed, Try.underlying25, pt_cells]
theorem pt_lits0 (p : S25) (h0 : (Lit.int .i64 p.f0).wf = true) (h1 : (Lit.int .i64 p.f1).wf = true) (m : Nat) : ∃ ls, Try.prog.keyLits (m + 1 + 1) 25 (ptV p).cells.toList = some ls := by
  simp [Program.keyLits, Try.underlying25, Try.underlying3, ptV, Value.cells, pt_cells, h0, h1, show Try.prog.cellsOf 3 = 1 by kernel_rfl]
theorem pos_of_lt {a b : Nat} (h : a < b) : ∃ m, b = m + 1 := ⟨b - 1, by omega⟩
theorem pt_lits (p : S25) (h0 : (Lit.int .i64 p.f0).wf = true) (h1 : (Lit.int .i64 p.f1).wf = true) : ∃ ls, Try.prog.keyLits (Try.prog.types.size + 1) 25 (ptV p).cells.toList = some ls := by
  obtain ⟨m, hm⟩ := pos_of_lt pt_row
  rw [hm]
  exact pt_lits0 p h0 h1 m
theorem pt_key (p : S25) (h : ptOk p) : ∃ l, keyOf Try.prog 25 (ptV p) = some l := by
  obtain ⟨h0, h1⟩ := h
  unfold keyOf
  rw [Try.underlying25]
  have hk : Try.prog.keyType 25 = true := pt_deep
  simp only [hk, pt_formed, Bool.and_self, if_true]
  obtain ⟨ls, e⟩ := pt_lits p h0 h1
  exact ⟨_, by rw [e]; rfl⟩
noncomputable def ptL (p : S25) : Lit := (keyOf Try.prog 25 (ptV p)).getD (.bool false)
theorem ptL_of (p : S25) (h : ptOk p) : keyOf Try.prog 25 (ptV p) = some (ptL p) := by
  obtain ⟨l, e⟩ := pt_key p h
  rw [ptL, e]; rfl
theorem ptL_inj {p q : S25} (hp : ptOk p) (hq : ptOk q) (h : ptL p = ptL q) : p = q := by
  have e := pt_law.inj (ptL_of p hp) (by rw [h]; exact ptL_of q hq)
  unfold ptV at e
  injection e with e
  have e1 := congrArg (fun a : Array Value => a.toList) e
  simp at e1
  cases p; cases q; simp_all
/-- how a value reads -/
def ptR (v : Value) : Option (DataW Unit × List MemPlace) :=
  match v with
  | .agg cs => (match cs.toList with
    | [.int .i64 x, .int .i64 y] => some (.agg [.lit (.int .i64 x), .lit (.int .i64 y)], [])
    | _ => none)
  | _ => none
def ptD (p : S25) : DataW Unit := .agg [.lit (.int .i64 p.f0), .lit (.int .i64 p.f1)]
theorem ptR_mk (p : S25) : ptR (ptV p) = some (ptD p, []) := rfl
theorem ptR_inv {v : Value} {p : S25} {ps : List MemPlace} (h : ptR v = some (ptD p, ps)) : v = ptV p := by
  unfold ptR at h
  split at h
  · rename_i cs
    split at h
    · rename_i x y e
      simp only [ptD, Option.some.injEq, Prod.mk.injEq, DataW.agg.injEq, List.cons.injEq, DataW.lit.injEq, Lit.int.injEq, true_and, and_true] at h
      obtain ⟨⟨rfl, rfl⟩, _⟩ := h
      have : cs = #[.int .i64 p.f0, .int .i64 p.f1] := by cases cs; simp_all
      rw [this]; rfl
    · exact absurd h (by simp)
  · exact absurd h (by simp)
/-- what is laid into the map, the latest first -/
abbrev Back := List (S25 × S25)
noncomputable def bD : Back → DataW Unit
  | [] => .map []
  | (q, p) :: t => (bD t).put (ptL q) (ptD p)
def bGet (l : Back) (q : S25) : Option S25 := (l.find? fun e => decide (e.1.f0 = q.f0 ∧ e.1.f1 = q.f1)).map (·.2)
theorem pt_ext {p q : S25} : (p.f0 = q.f0 ∧ p.f1 = q.f1) ↔ p = q := by
  cases p; cases q; simp
theorem bD_map : ∀ l : Back, IsMap (bD l)
  | [] => isMap_empty
  | (q, p) :: t => (bD_map t).put _ _
theorem bD_has (q : S25) (hq : ptOk q) : ∀ l : Back, (∀ e ∈ l, ptOk e.1) → Maps.has (bD l) (ptL q) = (bGet l q).isSome
  | [], _ => rfl
  | (a, p) :: t, h => by
    have ha := h _ (List.mem_cons_self ..)
    have ih := bD_has q hq t (fun e he => h e (List.mem_cons_of_mem _ he))
    unfold bD bGet
    by_cases e : a = q
    · subst e
      rw [has_put_same (bD_map t) (pt_law.key (ptL_of a ha)), List.find?_cons_of_pos (by simp)]; rfl
    · rw [has_put_other (fun z => e (ptL_inj ha hq z.symm)), ih, List.find?_cons_of_neg (by simp only [decide_eq_true_eq]; exact fun z => e (pt_ext.1 z))]; rfl
theorem bD_at (q : S25) (hq : ptOk q) (z : S25) : ∀ l : Back, (∀ e ∈ l, ptOk e.1) → (bD l).atKey (ptL q) (ptD z) = ptD ((bGet l q).getD z)
  | [], _ => rfl
  | (a, p) :: t, h => by
    have ha := h _ (List.mem_cons_self ..)
    have ih := bD_at q hq z t (fun e he => h e (List.mem_cons_of_mem _ he))
    unfold bD bGet
    by_cases e : a = q
    · subst e
      rw [atKey_put_same (bD_map t) (pt_law.key (ptL_of a ha)), List.find?_cons_of_pos (by simp)]; rfl
    · rw [atKey_put_other (fun z => e (ptL_inj ha hq z.symm)), ih, List.find?_cons_of_neg (by simp only [decide_eq_true_eq]; exact fun z => e (pt_ext.1 z))]; rfl
/-- block b is the map of what was laid into it -/
def MapIs (w : World) (b : Nat) (l : Back) : Prop := (∀ e ∈ l, ptOk e.1) ∧ w.ownsMap (H := Unit) Try.prog 25 ptR b l.length (bD l)
theorem MapIs.below {w w1 : World} {b : Nat} {l : Back} (h : MapIs w b l) (hb : Below w.heap.size w w1) : MapIs w1 b l := by
  obtain ⟨h0, es, clock, hm, r⟩ := h
  exact ⟨h0, es, clock, (hb.block b (Array.getElem?_eq_some_iff.1 hm).1).trans hm, r⟩
theorem MapIs.far {w : World} {b : Nat} {l : Back} (h : MapIs w b l) {a : Addr} (ha : b ≠ a.block) (u : Value) : MapIs (w.setCell a u) b l := ⟨h.1, h.2.setCell ha u⟩
theorem MapIs.grown {w w1 : World} {b : Nat} {l : Back} (h : MapIs w b l) {row : Option Nat} (hg : w.grownBy w1 row) (hne : some b ≠ row) : MapIs w1 b l := ⟨h.1, h.2.kept hg hne⟩
theorem MapIs.made (w : World) : MapIs (w.alloc (.map #[] 0)) w.heap.size [] := ⟨fun _ h => absurd h List.not_mem_nil, World.ownsMap_made _ _ _ _⟩
theorem MapIs.lt {w : World} {b : Nat} {l : Back} (h : MapIs w b l) : b < w.heap.size := h.2.lt
section
variable {w : World} {ops : Array Oper} {rest : List Oper} {o : Oper} {a : Act} {Q : Exit → Act → World → Prop}
theorem pt_zero (w : World) : (zeroValue 25).run Try.prog w = .ok (ptV ⟨0, 0⟩) w := by kernel_rfl
theorem MapIs.look_ok {b : Nat} {l : Back} (hg : o.guard = none) (m x : Operand) (hop : o.op = Op.lookup 56 m x true) (hm : a.eval m = .map (some b)) (h : MapIs w b l) (q : S25) (hq : ptOk q) (hx : a.eval x = ptV q)
    (hK : ∀ (kp : S25) (kb : Bool), kp = (bGet l q).getD ⟨0, 0⟩ → kb = (bGet l q).isSome → wpList Try.prog ops Q rest (a.put o.dst (.tuple #[.agg #[.int .i64 kp.f0, .int .i64 kp.f1], .bool kb])) w) : wpList Try.prog ops Q (o :: rest) a w := by
  refine wpList_lookup_own_ok w hg m x _ hop 25 25 pt_law Try.underlying56 ptR (pt_zero w) (ptD ⟨0, 0⟩) [] (ptR_mk _) b _ (bD l) hm h.2 (ptV q) (ptL q) hx (ptL_of q hq) ?_
  intro v ps hv
  rw [bD_at q hq _ l h.1] at hv
  rw [ptR_inv hv, bD_has q hq l h.1]
  exact hK _ _ rfl rfl
theorem MapIs.look {b : Nat} {l : Back} (hg : o.guard = none) (m x : Operand) (hop : o.op = Op.lookup 56 m x false) (hm : a.eval m = .map (some b)) (h : MapIs w b l) (q : S25) (hq : ptOk q) (hx : a.eval x = ptV q)
    (hK : ∀ kp : S25, kp = (bGet l q).getD ⟨0, 0⟩ → wpList Try.prog ops Q rest (a.put o.dst (.agg #[.int .i64 kp.f0, .int .i64 kp.f1])) w) : wpList Try.prog ops Q (o :: rest) a w := by
  refine wpList_plain hg fun K' hK' => ?_
  obtain ⟨v, ps, hrun, hv⟩ := h.2.lookup pt_law Try.underlying56 (pt_zero w) (ptR_mk ⟨0, 0⟩) (ptL_of q hq)
  rw [bD_at q hq _ l h.1] at hv
  rw [ptR_inv hv] at hrun
  unfold Oper.wp
  simp [execOp, hop, hm, hx, hrun, Result.andThen]
  exact hK' _ _ (hK _ rfl)
theorem MapIs.store {b : Nat} {l : Back} (hg : o.guard = none) (m x v : Operand) (hop : o.op = Op.mapUpdate 56 m x v) (hm : a.eval m = .map (some b)) (h : MapIs w b l) (hl : l.length < maxLen) (q p : S25) (hq : ptOk q) (hx : a.eval x = ptV q) (hv : a.eval v = ptV p)
    (hK : ∀ w1, MapIs w1 b ((q, p) :: l) → w.grownBy w1 (some b) → wpList Try.prog ops Q rest (a.put o.dst undef) w1) : wpList Try.prog ops Q (o :: rest) a w := by
  refine wpList_mapUpdate_own w hg m x v _ hop 25 25 pt_law Try.underlying56 ptR b _ (bD l) hm h.2 hl (ptV q) (ptV p) (ptL q) hx hv (ptL_of q hq) (ptD p) [] (ptR_mk p) ?_
  intro w1 h1 h2
  exact hK w1 ⟨fun e he => by
    rcases List.mem_cons.1 he with rfl | he
    · exact hq
    · exact h.1 e he, h1⟩ h2
end
theorem heap_newk (w : World) (o : Obj) : (w.alloc o).heap[w.heap.size]? = some o := by
  show (w.heap.push o)[w.heap.size]? = some o
  exact Array.getElem?_push_size

abbrev P2 := S25
/-- whether one of the watchers sees a point -/
def eyesF (l : List S48) (q : P2) : List P2 → Option Bool
  | [] => some false
  | e :: t => (screen_sees.f l e.f0 e.f1 q.f0 q.f1).bind fun b => if b = true then some true else eyesF l q t
/-- a point that may be found -/
def tryF (l : List S48) (eyes : List P2) (b0 b1 b2 b3 : Int) (p q : P2) (s : List P2 × Back) : Option (List P2 × Back) :=
  if ptOk q ∧ s.1.length < 1000000 ∧ s.2.length < 1000000 then
    (if (bGet s.2 q).isSome = true then some s else
      (screen_inside.f b0 b1 b2 b3 q.f0 q.f1).bind fun i => if i = true then
        ((screen_sees.f l p.f0 p.f1 q.f0 q.f1).bind fun v => if v = true then
          ((eyesF l q eyes).bind fun e => if e = true then some s else some (s.1 ++ [q], (q, p) :: s.2))
        else some s)
      else some s)
  else none
def dirs : List P2 := [⟨1, 0⟩, ⟨-1, 0⟩, ⟨0, 1⟩, ⟨0, -1⟩]
def dirsF (l : List S48) (eyes : List P2) (b0 b1 b2 b3 : Int) (p : P2) : List P2 → List P2 × Back → Option (List P2 × Back)
  | [], s => some s
  | d :: t, s => (tryF l eyes b0 b1 b2 b3 p ⟨wrap64 (p.f0 + d.f0), wrap64 (p.f1 + d.f1)⟩ s).bind fun s => dirsF l eyes b0 b1 b2 b3 p t s
def spreadF (l : List S48) (eyes : List P2) (b0 b1 b2 b3 : Int) : Nat → Nat → List P2 × Back → Option (List P2 × Back)
  | 0, _, _ => none
  | k + 1, i, s => if h : i < s.1.length then (dirsF l eyes b0 b1 b2 b3 s.1[i] dirs s).bind fun s => spreadF l eyes b0 b1 b2 b3 k (i + 1) s else some s
def screen_spread.f (k : Nat) (l0 : List S48) (l1 : List P2) (a2_0 a2_1 a2_2 a2_3 a3_0 a3_1 : Int) : Option (List P2 × Back) :=
  (screen_hidden.f l0 l1 a3_0 a3_1).bind fun h => if h = true then (if ptOk ⟨a3_0, a3_1⟩ then spreadF l0 l1 a2_0 a2_1 a2_2 a2_3 k 0 ([⟨a3_0, a3_1⟩], [(⟨a3_0, a3_1⟩, ⟨a3_0, a3_1⟩)]) else none) else some ([], [])
theorem law_some {α : Type} {c : Prop} [Decidable c] {x : Option α} {r : α} (h : (if c then x else none) = some r) : c ∧ x = some r := by
  by_cases hc : c
  · exact ⟨hc, by rw [if_pos hc] at h; exact h⟩
  · rw [if_neg hc] at h; exact absurd h (by simp)
theorem dirs_at {W : World} {gd : Nat} (h : W.heap[gd]? = some (.cells #[.int .i64 1, .int .i64 0, .int .i64 (-1), .int .i64 0, .int .i64 0, .int .i64 1, .int .i64 0, .int .i64 (-1)] 25 (0, 0))) {j : Nat} (hj : j < 4) : ∃ d : P2, dirs.drop j = d :: dirs.drop (j + 1) ∧ W.cell? ⟨gd, j * 2, none⟩ = some (.int .i64 d.f0) ∧ W.cell? ⟨gd, j * 2 + 1, none⟩ = some (.int .i64 d.f1) := by
  match j, hj with
  | 0, _ => exact ⟨⟨1, 0⟩, rfl, (blk_cell h 0).trans rfl, (blk_cell h 1).trans rfl⟩
  | 1, _ => exact ⟨⟨-1, 0⟩, rfl, (blk_cell h 2).trans rfl, (blk_cell h 3).trans rfl⟩
  | 2, _ => exact ⟨⟨0, 1⟩, rfl, (blk_cell h 4).trans rfl, (blk_cell h 5).trans rfl⟩
  | 3, _ => exact ⟨⟨0, -1⟩, rfl, (blk_cell h 6).trans rfl, (blk_cell h 7).trans rfl⟩
theorem spr_own {v v1 : Value} {n gp gd : Nat} (h : ∀ k, v.ownBlock = some k → k ≠ gp ∧ k ≠ gd) (hat : v1.ownBlock = v.ownBlock ∨ ∃ b, v1.ownBlock = some b ∧ n ≤ b) (hp : gp < n) (hd : gd < n) : ∀ k, v1.ownBlock = some k → k ≠ gp ∧ k ≠ gd := by
  intro k hk
  rcases hat with hat | ⟨b, hat, hle⟩
  · exact h k (hat ▸ hk)
  · have e1 : k = b := by rw [hk] at hat; injection hat
    omega
/-- what stands between two rounds -/
structure SprAt (w : World) (gm : Nat) (a2_0 a2_1 a2_2 a2_3 : Int) (W : World) (v : Value) (s : List P2 × Back) : Prop where
  bel : Below w.heap.size w W
  gmb : w.heap.size < gm
  box : W.heap[w.heap.size]? = some (.cells #[.int .i64 a2_0, .int .i64 a2_1, .int .i64 a2_2, .int .i64 a2_3] 27 (0, 0))
  map : MapIs W gm s.2
  row : Kd.R k25 25 W w.heap.size (fun _ => True) v s.1
theorem SprAt.below {w W W1 : World} {gm : Nat} {a b c d : Int} {v : Value} {s : List P2 × Back} (h : SprAt w gm a b c d W v s) (hb : Below W.heap.size W W1) : SprAt w gm a b c d W1 v s :=
  ⟨below_step h.bel hb, h.gmb, blk_below (g := w.heap.size) (o := .cells #[.int .i64 a, .int .i64 b, .int .i64 c, .int .i64 d] 27 (0, 0)) h.box hb, h.map.below hb, Kd.R_below h.row hb⟩
theorem SprAt.put {w W W1 : World} {gm : Nat} {a b c d : Int} {v : Value} {s : List P2 × Back} {l : Back} (h : SprAt w gm a b c d W v s) (hg : W.grownBy W1 (some gm)) (hm : MapIs W1 gm l) : SprAt w gm a b c d W1 v (s.1, l) := by
  have hs := below_size h.bel
  refine ⟨h.bel.grown hg hs (fun k hk => by injection hk with hk; have := h.gmb; omega), h.gmb, ?_, hm, ?_⟩
  · have hl : w.heap.size < W.heap.size := (Array.getElem?_eq_some_iff.1 h.box).1
    rw [hg.block _ hl (fun e => by injection e with e; have := h.gmb; omega)]; exact h.box
  · obtain ⟨_, es, clock, hmm, _⟩ := h.map
    exact Kd.R_mono (Kd.R_step (Kd.R_bound h.row) (fun k hk hlt => hg.block k hlt (fun e => by
      injection e with e
      obtain ⟨_, _, _, _, _, cells, hc⟩ := hk
      rw [e, hmm] at hc
      exact absurd hc (by simp)))) (fun _ hk => hk.1)
theorem SprAt.more {w W W1 : World} {gm : Nat} {a b c d : Int} {v v1 : Value} {s : List P2 × Back} {l : List P2} (h : SprAt w gm a b c d W v s) (hg : W.grownBy W1 v.ownBlock) (hr : Kd.R k25 25 W1 w.heap.size (fun _ => True) v1 l) : SprAt w gm a b c d W1 v1 (l, s.2) := by
  have hs := below_size h.bel
  have ne : some gm ≠ v.ownBlock := fun e => by
    obtain ⟨_, es, clock, hmm, _⟩ := h.map
    obtain ⟨cells, hc⟩ := Kd.R_typed h.row gm e.symm
    rw [hmm] at hc
    exact absurd hc (by simp)
  refine ⟨h.bel.grown hg hs (fun k hk => Kd.R_base h.row k hk), h.gmb, ?_, h.map.grown hg ne, hr⟩
  have hl : w.heap.size < W.heap.size := (Array.getElem?_eq_some_iff.1 h.box).1
  rw [hg.block _ hl (fun e => by
    obtain ⟨cells, hc⟩ := Kd.R_typed h.row w.heap.size e.symm
    rw [h.box] at hc
    injection hc with hc
    injection hc with _ hc
    exact absurd hc (by decide))]
  exact h.box
set_option maxHeartbeats 8000000 in
theorem screen_spread.calls (k : Nat) (A0 : Option Addr) (c0 : Nat) (l0 : List S48) (A1 : Option Addr) (c1 : Nat) (l1 : List P2) (a2_0 a2_1 a2_2 a2_3 a3_0 a3_1 : Int) (r : List P2 × Back) (w : World)
    (hr0 : Kd.C k48 w A0 l0.length l0) (hc0 : l0.length ≤ c0) (hr1 : Kd.C k25 w A1 l1.length l1) (hc1 : l1.length ≤ c1) (h : screen_spread.f k l0 l1 a2_0 a2_1 a2_2 a2_3 a3_0 a3_1 = some r) :
    Calls Try.prog 24 #[.slice A0 l0.length c0, .slice A1 l1.length c1, .agg #[.int .i64 a2_0, .int .i64 a2_1, .int .i64 a2_2, .int .i64 a2_3], .agg #[.int .i64 a3_0, .int .i64 a3_1]] w fun e w' => ∃ (v : Value) (g : Nat), e = .returned (.tuple #[v, .map (some g)]) ∧ Kd.R k25 25 w' w.heap.size (fun _ => True) v r.1 ∧ MapIs w' g r.2 ∧ w.heap.size ≤ g ∧ Below w.heap.size w w' := by
  have hu := Try.underlying25
  have hmm := @run_makeMap Try.prog
  have HR0 := Aside0.mk hr0
  have HR1 := Aside0.mk hr1
  have HC0 := Aside0.mk hc0
  have HC1 := Aside0.mk hc1
  obtain ⟨hd, AH, H⟩ := Option.bind_eq_some_iff.mp h
  have HH := Aside0.mk H
  have AHH := Aside0.mk AH
  have b0 := Aside0.mk (below_alloc (Below.refl w.heap.size w) (.cells #[.int .i64 a2_0, .int .i64 a2_1, .int .i64 a2_2, .int .i64 a2_3] 27))
  clear hr0 hr1 hc0 hc1 h H AH
  go_enter Try.func24, Try.ntmps24
  go_upto_region 2 with fail
  have BX7 := Aside0.mk (show (((w.alloc (.cells #[.int .i64 a2_0, .int .i64 a2_1, .int .i64 a2_2, .int .i64 a2_3] 27)).alloc (.cells #[.int .i64 a3_0, .int .i64 a3_1] 25)).alloc (.map #[] 0)).heap[w.heap.size + 1]? = some (.cells #[.int .i64 a3_0, .int .i64 a3_1] 25 (0, 0)) from blk_alloc (by have := heap_newk (w.alloc (.cells #[.int .i64 a2_0, .int .i64 a2_1, .int .i64 a2_2, .int .i64 a2_3] 27)) (.cells #[.int .i64 a3_0, .int .i64 a3_1] 25); rw [alloc_size] at this; exact this) _)
  have HI := Aside0.mk (show SprAt w (w.heap.size + 1 + 1) a2_0 a2_1 a2_2 a2_3 (((w.alloc (.cells #[.int .i64 a2_0, .int .i64 a2_1, .int .i64 a2_2, .int .i64 a2_3] 27)).alloc (.cells #[.int .i64 a3_0, .int .i64 a3_1] 25)).alloc (.map #[] 0)) (.slice none 0 0) ([], []) from
    ⟨below_alloc (below_alloc b0.out _) _, by omega, blk_alloc (blk_alloc (heap_newk w _) _) _, by have := MapIs.made ((w.alloc (.cells #[.int .i64 a2_0, .int .i64 a2_1, .int .i64 a2_2, .int .i64 a2_3] 27)).alloc (.cells #[.int .i64 a3_0, .int .i64 a3_1] 25)); rw [alloc_size, alloc_size] at this; exact this, Kd.R_nil _ _ _ _ _⟩)
  generalize ((w.alloc (.cells #[.int .i64 a2_0, .int .i64 a2_1, .int .i64 a2_2, .int .i64 a2_3] 27)).alloc (.cells #[.int .i64 a3_0, .int .i64 a3_1] 25)).alloc (.map #[] 0) = w2 at BX7 HI ⊢
  have GM : Aside0 (w.heap.size ≤ w.heap.size + 1 + 1) := ⟨by omega⟩
  have G67 : Aside0 (w.heap.size ≠ w.heap.size + 1 ∧ w.heap.size + 1 ≠ w.heap.size + 1 + 1) := ⟨by omega, by omega⟩
  generalize w.heap.size + 1 + 1 = gm at HI GM G67 ⊢
  generalize w.heap.size + 1 = g7 at BX7 G67 ⊢
  clear b0 hmm
  have hz0 : w2.cell? ⟨g7, 0, none⟩ = some (.int .i64 a3_0) := (blk_cell BX7.out 0).trans rfl
  have hz1 : w2.cell? ⟨g7, 1, none⟩ = some (.int .i64 a3_1) := (blk_cell BX7.out 1).trans rfl
  go_wp2_with fail
  refine (screen_hidden.calls A0 c0 l0 A1 c1 l1 a3_0 a3_1 hd w2 (Kd.C_below HR0.out HI.out.bel) HC0.out (Kd.C_below HR1.out HI.out.bel) HC1.out AHH.out).mono ?_
  rintro e w3 ⟨rfl, hb⟩
  have BX3 := Aside0.mk (blk_below (g := g7) (o := .cells #[.int .i64 a3_0, .int .i64 a3_1] 25 (0, 0)) BX7.out hb)
  have HI3 := Aside0.mk (HI.out.below hb)
  clear hb hz0 hz1 BX7 HI AHH
  cases hd with
  | false =>
    obtain rfl := Option.some.inj ((if_neg (by decide)).symm.trans HH.out)
    go_wp2
    go_ret2
    exact ⟨_, _, rfl, HI3.out.row, HI3.out.map, GM.out, HI3.out.bel⟩
  | true =>
    obtain ⟨hok, HS⟩ := law_some ((if_pos rfl).symm.trans HH.out)
    have HOK := Aside0.mk hok
    have HS := Aside0.mk HS
    have hz0 : w3.cell? ⟨g7, 0, none⟩ = some (.int .i64 a3_0) := (blk_cell BX3.out 0).trans rfl
    have hz1 : w3.cell? ⟨g7, 1, none⟩ = some (.int .i64 a3_1) := (blk_cell BX3.out 1).trans rfl
    clear HH hok
    go_upto_region 5 with (first
      | ((with_reducible refine gate_dst (N := 29) rfl ?_); refine Kd.R_lit k25 _ 25 ?hg (N := 29) ?hd (xs := ([(⟨a3_0, a3_1⟩ : P2)] : List P2)) (inner := [.int .i64 a3_0, .int .i64 a3_1]) (ok := fun _ => True) (okp := fun _ => True) ?hr ?hp (fun _ hk => hk) trivial (Below.refl _ _) (Nat.le_refl _) (by simp) ?_; (case hd => rfl); (case hg => rfl); (case hr => first | (go_simp; done) | (go_simp; rfl)); (case hp => exact (Reps.c2 (show Kd.M k25 _ _ _ (⟨a3_0, a3_1⟩ : P2) [.int .i64 a3_0, .int .i64 a3_1] from (k25_mkM _ _ _ (⟨a3_0, a3_1⟩ : P2))) (Reps.none _ _))); intro v11 w4 ho hb hg_ hnew_; clear hg_ hnew_; have RW4 := Aside0.mk (Kd.R_lower (base' := w.heap.size) ho (below_size HI3.out.bel)); have HI4 := Aside0.mk (HI3.out.below hb); have BX4 := Aside0.mk (blk_below (g := g7) (o := .cells #[.int .i64 a3_0, .int .i64 a3_1] 25 (0, 0)) BX3.out hb); clear ho hb))
    have hz0' : w4.cell? ⟨g7, 0, none⟩ = some (.int .i64 a3_0) := (blk_cell BX4.out 0).trans rfl
    have hz1' : w4.cell? ⟨g7, 1, none⟩ = some (.int .i64 a3_1) := (blk_cell BX4.out 1).trans rfl
    have HI5 := Aside0.mk (show SprAt w gm a2_0 a2_1 a2_2 a2_3 w4 v11 ([⟨a3_0, a3_1⟩], []) from ⟨HI4.out.bel, HI4.out.gmb, HI4.out.box, HI4.out.map, RW4.out⟩)
    clear hz0 hz1 BX3 HI3 HI4 RW4
    go_upto_region 6 with (first | (at_mapUpdate; refine MapIs.store rfl _ _ _ rfl rfl HI5.out.map (by unfold maxLen; simp) (⟨a3_0, a3_1⟩ : P2) (⟨a3_0, a3_1⟩ : P2) HOK.out rfl rfl ?_; intro w5 hm hg; have HI6 := Aside0.mk (HI5.out.put hg hm); clear hm hg))
    clear hz0' hz1' HI5 BX4
    go_frame
    go_wp2
    go_loopg [11, 12] k (fun kq v11 v12 wr => ∃ (i : Nat) (s : List P2 × Back), v12 = .int .i64 i ∧ Aside0 (spreadF l0 l1 a2_0 a2_1 a2_2 a2_3 kq i s = some r) ∧ Aside0 (kq ≤ k) ∧ Aside0 (SprAt w gm a2_0 a2_1 a2_2 a2_3 wr v11 s))
    case atStart => exact ⟨0, _, rfl, HS, ⟨Nat.le_refl _⟩, HI6⟩
    case round =>
      clear HS HI6
      obtain ⟨i, s, rfl, HA, HK1, HI⟩ := hrel
      obtain ⟨fo, ba⟩ := s
      obtain ⟨Af, cf, ef⟩ := Kd.R_slice HI.out.row
      subst ef
      cases gk with
      | zero => exact absurd HA.out (by simp [spreadF])
      | succ k1 =>
        have H := HA.out
        clear HA
        unfold spreadF at H
        by_cases c : i < fo.length
        · rw [dif_pos c] at H
          obtain ⟨s2, A2, H⟩ := Option.bind_eq_some_iff.mp H
          obtain ⟨ad, ha, h1, h2⟩ := at_T25 (Kd.R_reads' HI.out.row).2.2 (i : Int) (by omega) (by show (i : Int) < (fo.length : Int); omega)
          have hx : rd_T25 fo (i : Int) = fo[i] := by simp [rd_T25, List.getD_eq_getElem?_getD, List.getElem?_eq_getElem c]
          dsimp only at h1 h2 A2
          rw [hx, Int.toNat_natCast] at h1 h2
          obtain ⟨p, hp⟩ : ∃ p, fo[i] = p := ⟨_, rfl⟩
          rw [hp] at h1 h2 A2
          have AD := Aside0.mk A2
          have HR := Aside0.mk H
          have CL := Aside0.mk c
          have CB := Aside0.mk (show fo.length ≤ 9223372036854775807 from (Kd.R_reads' HI.out.row).2.2.2.1)
          clear hx hp A2 H
          subst ha
          go_wp2
          go_step3
          go_wp2
          go_step3
          go_wp2
          have HX := Aside0.mk (show SprAt w gm a2_0 a2_1 a2_2 a2_3 ((wr.alloc (.cells #[.int .i64 p.f0, .int .i64 p.f1] 25)).alloc (.cells #[.int .i64 1, .int .i64 0, .int .i64 (-1), .int .i64 0, .int .i64 0, .int .i64 1, .int .i64 0, .int .i64 (-1)] 25)) (.slice (some ad) fo.length cf) (fo, ba) from HI.out.below (below_alloc (below_alloc (Below.refl _ _) _) _))
          have BP := Aside0.mk (show ((wr.alloc (.cells #[.int .i64 p.f0, .int .i64 p.f1] 25)).alloc (.cells #[.int .i64 1, .int .i64 0, .int .i64 (-1), .int .i64 0, .int .i64 0, .int .i64 1, .int .i64 0, .int .i64 (-1)] 25)).heap[wr.heap.size]? = some (.cells #[.int .i64 p.f0, .int .i64 p.f1] 25 (0, 0)) from blk_alloc (heap_newk wr _) _)
          have BD := Aside0.mk (show ((wr.alloc (.cells #[.int .i64 p.f0, .int .i64 p.f1] 25)).alloc (.cells #[.int .i64 1, .int .i64 0, .int .i64 (-1), .int .i64 0, .int .i64 0, .int .i64 1, .int .i64 0, .int .i64 (-1)] 25)).heap[wr.heap.size + 1]? = some (.cells #[.int .i64 1, .int .i64 0, .int .i64 (-1), .int .i64 0, .int .i64 0, .int .i64 1, .int .i64 0, .int .i64 (-1)] 25 (0, 0)) from by have := heap_newk (wr.alloc (.cells #[.int .i64 p.f0, .int .i64 p.f1] 25)) (.cells #[.int .i64 1, .int .i64 0, .int .i64 (-1), .int .i64 0, .int .i64 0, .int .i64 1, .int .i64 0, .int .i64 (-1)] 25); rw [alloc_size] at this; exact this)
          have GQ : Aside0 (w.heap.size < wr.heap.size ∧ gm < wr.heap.size) := ⟨(Array.getElem?_eq_some_iff.1 HI.out.box).1, HI.out.map.lt⟩
          have OW : Aside0 (∀ k_, (Value.slice (some ad) fo.length cf).ownBlock = some k_ → k_ ≠ wr.heap.size ∧ k_ ≠ wr.heap.size + 1) := ⟨fun k_ hk => by have := Kd.R_lt HI.out.row k_ hk; omega⟩
          generalize (wr.alloc (.cells #[.int .i64 p.f0, .int .i64 p.f1] 25)).alloc (.cells #[.int .i64 1, .int .i64 0, .int .i64 (-1), .int .i64 0, .int .i64 0, .int .i64 1, .int .i64 0, .int .i64 (-1)] 25) = wi at HX BP BD ⊢
          clear HI h1 h2
          have GD : Aside0 (wr.heap.size + 1 ≠ gm ∧ wr.heap.size ≠ gm) := ⟨by have := GQ.out; omega, by have := GQ.out; omega⟩
          generalize wr.heap.size + 1 = gd at BD OW GD ⊢
          generalize wr.heap.size = gp at BP OW GD GQ ⊢
          go_loopw [11, 49] (fun v11 v49 wq => ∃ (j : Nat) (s : List P2 × Back), v49 = .int .i64 j ∧ Aside0 (j ≤ 4) ∧ Aside0 (dirsF l0 l1 a2_0 a2_1 a2_2 a2_3 p (dirs.drop j) s = some s2) ∧ Aside0 (SprAt w gm a2_0 a2_1 a2_2 a2_3 wq v11 s) ∧ Aside0 (wq.heap[gp]? = some (.cells #[.int .i64 p.f0, .int .i64 p.f1] 25 (0, 0))) ∧ Aside0 (wq.heap[gd]? = some (.cells #[.int .i64 1, .int .i64 0, .int .i64 (-1), .int .i64 0, .int .i64 0, .int .i64 1, .int .i64 0, .int .i64 (-1)] 25 (0, 0))) ∧ Aside0 (∀ k_, v11.ownBlock = some k_ → k_ ≠ gp ∧ k_ ≠ gd)) (fun _ v49 _ => 4 - (intOf v49).toNat)
          case atStart => exact ⟨0, (fo, ba), rfl, ⟨by omega⟩, AD, HX, BP, BD, OW⟩
          case round =>
            clear AD HX BP BD OW
            obtain ⟨j, s, rfl, HJ, AD, HX, BP, BD, OW⟩ := hrel
            obtain ⟨fo, ba⟩ := s
            obtain ⟨Af, cf, ef⟩ := Kd.R_slice HX.out.row
            subst ef
            by_cases cj : j < 4
            · obtain ⟨d, hd, he0, he1⟩ := dirs_at BD.out cj
              have A := AD.out
              rw [hd] at A
              unfold dirsF at A
              obtain ⟨s3, T3, A3⟩ := Option.bind_eq_some_iff.mp A
              have T3 := Aside0.mk T3
              have A3 := Aside0.mk A3
              have CJ := Aside0.mk cj
              have hz0 : ∀ o, (wr.alloc o).cell? ⟨gp, 0, none⟩ = some (.int .i64 p.f0) := fun o => (blk_cell (blk_alloc BP.out o) 0).trans rfl
              have hz1 : ∀ o, (wr.alloc o).cell? ⟨gp, 1, none⟩ = some (.int .i64 p.f1) := fun o => (blk_cell (blk_alloc BP.out o) 1).trans rfl
              clear hd A AD
              go_upto_region 14 with fail
              generalize wrap64 (p.f0 + d.f0) = q0 at T3 ⊢
              generalize wrap64 (p.f1 + d.f1) = q1 at T3 ⊢
              have HX4 := Aside0.mk (show SprAt w gm a2_0 a2_1 a2_2 a2_3 ((wr.alloc (.cells #[.int .i64 d.f0, .int .i64 d.f1] 25)).alloc (.cells #[.int .i64 q0, .int .i64 q1] 25)) (.slice Af fo.length cf) (fo, ba) from HX.out.below (below_alloc (below_alloc (Below.refl _ _) _) _))
              have BP4 := Aside0.mk (blk_alloc (blk_alloc BP.out (.cells #[.int .i64 d.f0, .int .i64 d.f1] 25)) (.cells #[.int .i64 q0, .int .i64 q1] 25))
              have BD4 := Aside0.mk (blk_alloc (blk_alloc BD.out (.cells #[.int .i64 d.f0, .int .i64 d.f1] 25)) (.cells #[.int .i64 q0, .int .i64 q1] 25))
              have BQ4 := Aside0.mk (show ((wr.alloc (.cells #[.int .i64 d.f0, .int .i64 d.f1] 25)).alloc (.cells #[.int .i64 q0, .int .i64 q1] 25)).heap[wr.heap.size + 1]? = some (.cells #[.int .i64 q0, .int .i64 q1] 25 (0, 0)) from by have := heap_newk (wr.alloc (.cells #[.int .i64 d.f0, .int .i64 d.f1] 25)) (.cells #[.int .i64 q0, .int .i64 q1] 25); rw [alloc_size] at this; exact this)
              have OQ : Aside0 (wr.heap.size + 1 ≠ gm ∧ ∀ k_, (Value.slice Af fo.length cf).ownBlock = some k_ → k_ ≠ wr.heap.size + 1) := ⟨by have := HX.out.map.lt; omega, fun k_ hk => by have := Kd.R_lt HX.out.row k_ hk; omega⟩
              have GS : Aside0 (gp < wr.heap.size ∧ gd < wr.heap.size) := ⟨(Array.getElem?_eq_some_iff.1 BP.out).1, (Array.getElem?_eq_some_iff.1 BD.out).1⟩
              have e4 := @Aside0.mk _ (below_size (HX4.out.bel))
              generalize (wr.alloc (.cells #[.int .i64 d.f0, .int .i64 d.f1] 25)).alloc (.cells #[.int .i64 q0, .int .i64 q1] 25) = w4 at HX4 BP4 BD4 BQ4 e4 ⊢
              clear HX BP BD hz0 hz1 he0 he1 e4
              generalize wr.heap.size + 1 = gq at BQ4 OQ ⊢
              have T4 := T3.out
              unfold tryF at T4
              obtain ⟨⟨hok, hl1, hl2⟩, T4⟩ := law_some T4
              have HOQ := Aside0.mk hok
              have HL := Aside0.mk (show fo.length < 1000000 ∧ ba.length < 1000000 from And.intro hl1 hl2)
              have hq0 : w4.cell? ⟨gq, 0, none⟩ = some (.int .i64 q0) := (blk_cell BQ4.out 0).trans rfl
              have hq1 : w4.cell? ⟨gq, 1, none⟩ = some (.int .i64 q1) := (blk_cell BQ4.out 1).trans rfl
              have TT := Aside0.mk T4
              clear T3 T4 hok hl1 hl2
              go_upto_region 15 with (first | (at_lookup; refine MapIs.look_ok rfl _ _ rfl rfl HX4.out.map (⟨q0, q1⟩ : P2) HOQ.out rfl ?_; intro kp kb ekp ekb; have EK := Aside0.mk ekb; clear ekp ekb))
              have HX5 := Aside0.mk (HX4.out.below (below_alloc (Below.refl _ _) (.cells #[.int .i64 kp.f0, .int .i64 kp.f1] 25)))
              have BP5 := Aside0.mk (blk_alloc BP4.out (.cells #[.int .i64 kp.f0, .int .i64 kp.f1] 25))
              have BD5 := Aside0.mk (blk_alloc BD4.out (.cells #[.int .i64 kp.f0, .int .i64 kp.f1] 25))
              have BQ5 := Aside0.mk (blk_alloc BQ4.out (.cells #[.int .i64 kp.f0, .int .i64 kp.f1] 25))
              generalize w4.alloc (.cells #[.int .i64 kp.f0, .int .i64 kp.f1] 25) = w5 at HX5 BP5 BD5 BQ5 ⊢
              clear HX4 BP4 BD4 BQ4 hq0 hq1
              have hq0 : w5.cell? ⟨gq, 0, none⟩ = some (.int .i64 q0) := (blk_cell BQ5.out 0).trans rfl
              have hq1 : w5.cell? ⟨gq, 1, none⟩ = some (.int .i64 q1) := (blk_cell BQ5.out 1).trans rfl
              have hb0 : w5.cell? ⟨w.heap.size, 0, none⟩ = some (.int .i64 a2_0) := (blk_cell HX5.out.box 0).trans rfl
              have hb1 : w5.cell? ⟨w.heap.size, 1, none⟩ = some (.int .i64 a2_1) := (blk_cell HX5.out.box 1).trans rfl
              have hb2 : w5.cell? ⟨w.heap.size, 2, none⟩ = some (.int .i64 a2_2) := (blk_cell HX5.out.box 2).trans rfl
              have hb3 : w5.cell? ⟨w.heap.size, 3, none⟩ = some (.int .i64 a2_3) := (blk_cell HX5.out.box 3).trans rfl
              cases kb with
              | true =>
                have T5 := TT.out
                rw [← EK.out, if_pos rfl] at T5
                obtain rfl := Option.some.inj T5
                clear T5 TT EK
                go_wp2
                go_roundw
                case rel => exact ⟨j + 1, (fo, ba), by go_num, ⟨by have := CJ.out; omega⟩, A3, HX5, BP5, BD5, OW⟩
                case measure => simp [intOf]; have := CJ.out; omega
              | false =>
                have T5 := TT.out
                rw [← EK.out, if_neg (by decide)] at T5
                obtain ⟨iv, AI, T6⟩ := Option.bind_eq_some_iff.mp T5
                have AI := Aside0.mk AI
                have T6 := Aside0.mk T6
                clear T5 TT
                go_wp2_with fail
                refine (screen_inside.calls a2_0 a2_1 a2_2 a2_3 q0 q1 iv w5 AI.out).mono ?_
                rintro e w6 ⟨rfl, hb⟩
                have HX6 := Aside0.mk (HX5.out.below hb)
                have BP6 := Aside0.mk (blk_below (g := gp) (o := .cells #[.int .i64 p.f0, .int .i64 p.f1] 25 (0, 0)) BP5.out hb)
                have BD6 := Aside0.mk (blk_below (g := gd) (o := .cells #[.int .i64 1, .int .i64 0, .int .i64 (-1), .int .i64 0, .int .i64 0, .int .i64 1, .int .i64 0, .int .i64 (-1)] 25 (0, 0)) BD5.out hb)
                have BQ6 := Aside0.mk (blk_below (g := gq) (o := .cells #[.int .i64 q0, .int .i64 q1] 25 (0, 0)) BQ5.out hb)
                clear hb HX5 BP5 BD5 BQ5 hq0 hq1 hb0 hb1 hb2 hb3 AI
                cases iv with
                | false =>
                  have T7 := T6.out
                  rw [if_neg (by decide)] at T7
                  obtain rfl := Option.some.inj T7
                  clear T7 T6
                  go_wp2
                  go_roundw
                  case rel => exact ⟨j + 1, (fo, ba), by go_num, ⟨by have := CJ.out; omega⟩, A3, HX6, BP6, BD6, OW⟩
                  case measure => simp [intOf]; have := CJ.out; omega
                | true =>
                  have T7 := T6.out
                  rw [if_pos rfl] at T7
                  obtain ⟨sv, AS, T8⟩ := Option.bind_eq_some_iff.mp T7
                  have AS := Aside0.mk AS
                  have T8 := Aside0.mk T8
                  have hq0 : w6.cell? ⟨gq, 0, none⟩ = some (.int .i64 q0) := (blk_cell BQ6.out 0).trans rfl
                  have hq1 : w6.cell? ⟨gq, 1, none⟩ = some (.int .i64 q1) := (blk_cell BQ6.out 1).trans rfl
                  have hp0 : w6.cell? ⟨gp, 0, none⟩ = some (.int .i64 p.f0) := (blk_cell BP6.out 0).trans rfl
                  have hp1 : w6.cell? ⟨gp, 1, none⟩ = some (.int .i64 p.f1) := (blk_cell BP6.out 1).trans rfl
                  clear T7 T6
                  go_wp2_with fail
                  refine (screen_sees.calls A0 c0 l0 p.f0 p.f1 q0 q1 sv w6 (Kd.C_below HR0.out HX6.out.bel) HC0.out AS.out).mono ?_
                  rintro e w7 ⟨rfl, hb⟩
                  have HX7 := Aside0.mk (HX6.out.below hb)
                  have BP7 := Aside0.mk (blk_below (g := gp) (o := .cells #[.int .i64 p.f0, .int .i64 p.f1] 25 (0, 0)) BP6.out hb)
                  have BD7 := Aside0.mk (blk_below (g := gd) (o := .cells #[.int .i64 1, .int .i64 0, .int .i64 (-1), .int .i64 0, .int .i64 0, .int .i64 1, .int .i64 0, .int .i64 (-1)] 25 (0, 0)) BD6.out hb)
                  have BQ7 := Aside0.mk (blk_below (g := gq) (o := .cells #[.int .i64 q0, .int .i64 q1] 25 (0, 0)) BQ6.out hb)
                  clear hb HX6 BP6 BD6 BQ6 hq0 hq1 hp0 hp1 AS
                  cases sv with
                  | false =>
                    have T9 := T8.out
                    rw [if_neg (by decide)] at T9
                    obtain rfl := Option.some.inj T9
                    clear T9 T8
                    go_wp2
                    go_roundw
                    case rel => exact ⟨j + 1, (fo, ba), by go_num, ⟨by have := CJ.out; omega⟩, A3, HX7, BP7, BD7, OW⟩
                    case measure => simp [intOf]; have := CJ.out; omega
                  | true =>
                    have T9 := T8.out
                    rw [if_pos rfl] at T9
                    obtain ⟨ev, AE, T10⟩ := Option.bind_eq_some_iff.mp T9
                    have AE := Aside0.mk (show eyesF l0 ⟨q0, q1⟩ (l1.drop 0) = some ev from AE)
                    have T10 := Aside0.mk T10
                    clear T9 T8 EK
                    go_wp2
                    go_loopw [86] (fun v86 wq => ∃ m : Nat, v86 = .int .i64 m ∧ Aside0 (m ≤ l1.length) ∧ Aside0 (eyesF l0 ⟨q0, q1⟩ (l1.drop m) = some ev) ∧ Aside0 (SprAt w gm a2_0 a2_1 a2_2 a2_3 wq (.slice Af fo.length cf) (fo, ba)) ∧ Aside0 (wq.heap[gp]? = some (.cells #[.int .i64 p.f0, .int .i64 p.f1] 25 (0, 0))) ∧ Aside0 (wq.heap[gd]? = some (.cells #[.int .i64 1, .int .i64 0, .int .i64 (-1), .int .i64 0, .int .i64 0, .int .i64 1, .int .i64 0, .int .i64 (-1)] 25 (0, 0))) ∧ Aside0 (wq.heap[gq]? = some (.cells #[.int .i64 q0, .int .i64 q1] 25 (0, 0)))) (fun v86 _ => l1.length - (intOf v86).toNat)
                    case atStart => exact ⟨0, rfl, ⟨Nat.zero_le _⟩, AE, HX7, BP7, BD7, BQ7⟩
                    case round =>
                      clear AE HX7 BP7 BD7 BQ7
                      obtain ⟨m, rfl, HM, AE, HX, BP, BD, BQ⟩ := hrel
                      have hm := HM.out
                      by_cases cm : m < l1.length
                      · have A := AE.out
                        rw [List.drop_eq_getElem_cons cm] at A
                        obtain ⟨ad, ha, h1, h2⟩ := at_T25 (Kd.C_below HR1.out HX.out.bel) (m : Int) (by omega) (by omega)
                        have hx : rd_T25 l1 (m : Int) = l1[m] := by simp [rd_T25, List.getD_eq_getElem?_getD, List.getElem?_eq_getElem cm]
                        rw [hx, Int.toNat_natCast] at h1 h2
                        obtain ⟨y, hy⟩ : ∃ y, l1[m] = y := ⟨_, rfl⟩
                        rw [hy] at h1 h2 A
                        unfold eyesF at A
                        obtain ⟨yv, AY, A2⟩ := Option.bind_eq_some_iff.mp A
                        have AY := Aside0.mk AY
                        have A2 := Aside0.mk A2
                        have CM := Aside0.mk cm
                        clear hx hy A AE
                        subst ha
                        have hq0 : ∀ o, (wr.alloc o).cell? ⟨gq, 0, none⟩ = some (.int .i64 q0) := fun o => (blk_cell (blk_alloc BQ.out o) 0).trans rfl
                        have hq1 : ∀ o, (wr.alloc o).cell? ⟨gq, 1, none⟩ = some (.int .i64 q1) := fun o => (blk_cell (blk_alloc BQ.out o) 1).trans rfl
                        go_wp2_with fail
                        refine (screen_sees.calls A0 c0 l0 y.f0 y.f1 q0 q1 yv _ (Kd.C_below HR0.out (below_alloc HX.out.bel _)) HC0.out AY.out).mono ?_
                        rintro e w8 ⟨rfl, hb⟩
                        have hb := below_step (below_alloc (Below.refl _ _) _) hb
                        have HX8 := Aside0.mk (HX.out.below hb)
                        have BP8 := Aside0.mk (blk_below (g := gp) (o := (.cells #[.int .i64 p.f0, .int .i64 p.f1] 25 (0, 0))) BP.out hb)
                        have BD8 := Aside0.mk (blk_below (g := gd) (o := (.cells #[.int .i64 1, .int .i64 0, .int .i64 (-1), .int .i64 0, .int .i64 0, .int .i64 1, .int .i64 0, .int .i64 (-1)] 25 (0, 0))) BD.out hb)
                        have BQ8 := Aside0.mk (blk_below (g := gq) (o := (.cells #[.int .i64 q0, .int .i64 q1] 25 (0, 0))) BQ.out hb)
                        clear hb HX BP BD BQ hq0 hq1 AY h1 h2
                        cases yv with
                        | true =>
                          have A3' := A2.out
                          rw [if_pos rfl] at A3'
                          obtain rfl := Option.some.inj A3'
                          have T11 := T10.out
                          rw [if_pos rfl] at T11
                          obtain rfl := Option.some.inj T11
                          clear A3' A2 T11 T10
                          go_wp2
                          go_roundw
                          case rel => exact ⟨j + 1, (fo, ba), by go_num, ⟨by have := CJ.out; omega⟩, A3, HX8, BP8, BD8, OW⟩
                          case measure => simp [intOf]; have := CJ.out; omega
                        | false =>
                          have A3' := A2.out
                          rw [if_neg (by decide)] at A3'
                          have A4 := Aside0.mk A3'
                          have cm2 := CM.out
                          have cb := HR1.out.2.1
                          clear A3' A2
                          go_wp2
                          go_roundw
                          case rel => exact ⟨m + 1, by go_num, ⟨by have := CM.out; omega⟩, A4, HX8, BP8, BD8, BQ8⟩
                          case measure => simp [intOf]; have := CM.out; omega
                      · have A := AE.out
                        rw [List.drop_eq_nil_of_le (by omega)] at A
                        unfold eyesF at A
                        obtain rfl := Option.some.inj A
                        have T11 := T10.out
                        rw [if_neg (by decide)] at T11
                        obtain rfl := Option.some.inj T11
                        have hq0 : wr.cell? ⟨gq, 0, none⟩ = some (.int .i64 q0) := (blk_cell BQ.out 0).trans rfl
                        have hq1 : wr.cell? ⟨gq, 1, none⟩ = some (.int .i64 q1) := (blk_cell BQ.out 1).trans rfl
                        have hp0 : wr.cell? ⟨gp, 0, none⟩ = some (.int .i64 p.f0) := (blk_cell BP.out 0).trans rfl
                        have hp1 : wr.cell? ⟨gp, 1, none⟩ = some (.int .i64 p.f1) := (blk_cell BP.out 1).trans rfl
                        clear A AE T11 T10
                        go_upto_region 22 with (first | (at_mapUpdate; go_loud (refine MapIs.store rfl _ _ _ rfl rfl HX.out.map (by have := HL.out.2; show ba.length < maxLen; unfold maxLen; omega) (⟨q0, q1⟩ : P2) p HOQ.out rfl rfl ?_); intro w9 hmm hg; have HX9 := Aside0.mk (HX.out.put hg hmm); have BP9 := Aside0.mk (blk_grown (g := gp) (o := (.cells #[.int .i64 p.f0, .int .i64 p.f1] 25 (0, 0))) BP.out hg (fun e => GD.out.2 (by injection e))); have BD9 := Aside0.mk (blk_grown (g := gd) (o := (.cells #[.int .i64 1, .int .i64 0, .int .i64 (-1), .int .i64 0, .int .i64 0, .int .i64 1, .int .i64 0, .int .i64 (-1)] 25 (0, 0))) BD.out hg (fun e => GD.out.1 (by injection e))); have BQ9 := Aside0.mk (blk_grown (g := gq) (o := (.cells #[.int .i64 q0, .int .i64 q1] 25 (0, 0))) BQ.out hg (fun e => OQ.out.1 (by injection e))); clear hmm hg))
                        (try go_frame)
                        clear HX BP BD BQ hq0 hq1 hp0 hp1
                        have hq0 : w9.cell? ⟨gq, 0, none⟩ = some (.int .i64 q0) := (blk_cell BQ9.out 0).trans rfl
                        have hq1 : w9.cell? ⟨gq, 1, none⟩ = some (.int .i64 q1) := (blk_cell BQ9.out 1).trans rfl
                        go_wp2_with (first | ((with_reducible refine gate_builtin (b := .append) (xs := #[.tmp 98, .tmp 100]) rfl ?_); at_builtin; refine Kd.R_append k25 (w0 := w) w.heap.size rfl (.tmp 98) (.tmp 100) 23 25 (.agg #[(.int .i64 0), (.int .i64 0)]) 16 rfl Try.underlying23 info25 rfl (by decide) (by omega) (.slice Af fo.length cf) fo (⟨q0, q1⟩ : P2) [.int .i64 q0, .int .i64 q1] (fun _ => True) (fun _ => False) rfl rfl (k25_mkM _ _ _ (⟨q0, q1⟩ : P2)) (fun _ hk => hk.elim) (fun _ _ => trivial) HX9.out.row HX9.out.bel (below_size HX9.out.bel) (by have := HL.out.1; omega) ?_; intro v10 w10 ho hb10 hg hat; have HX10 := Aside0.mk (HX9.out.more hg ho); have BP10 := Aside0.mk (blk_grown (g := gp) (o := (.cells #[.int .i64 p.f0, .int .i64 p.f1] 25 (0, 0))) BP9.out hg (fun e => (OW.out gp e.symm).1 rfl)); have BD10 := Aside0.mk (blk_grown (g := gd) (o := (.cells #[.int .i64 1, .int .i64 0, .int .i64 (-1), .int .i64 0, .int .i64 0, .int .i64 1, .int .i64 0, .int .i64 (-1)] 25 (0, 0))) BD9.out hg (fun e => (OW.out gd e.symm).2 rfl)); have OW10 : Aside0 (∀ k_, v10.ownBlock = some k_ → k_ ≠ gp ∧ k_ ≠ gd) := ⟨spr_own OW.out hat (Array.getElem?_eq_some_iff.1 BP9.out).1 (Array.getElem?_eq_some_iff.1 BD9.out).1⟩; obtain ⟨Ao, co, eo⟩ := Kd.R_slice ho; subst eo; clear ho hb10 hg hat hq0 hq1))
                        have HX11 : Aside0 (SprAt w gm a2_0 a2_1 a2_2 a2_3 w10 (.slice Ao (fo.length + 1) co) (fo ++ [⟨q0, q1⟩], (⟨q0, q1⟩, p) :: ba)) := ⟨by have h_ := HX10.out; rw [List.length_append] at h_; exact h_⟩
                        have OW11 : Aside0 (∀ k_, (Value.slice Ao (fo.length + 1) co).ownBlock = some k_ → k_ ≠ gp ∧ k_ ≠ gd) := ⟨by have h_ := OW10.out; rw [List.length_append] at h_; exact h_⟩
                        go_roundw
                        case rel => exact ⟨j + 1, (fo ++ [⟨q0, q1⟩], (⟨q0, q1⟩, p) :: ba), by go_num, ⟨by have := CJ.out; omega⟩, A3, HX11, BP10, BD10, OW11⟩
                        case measure => simp [intOf]; have := CJ.out; omega
            · have A := AD.out
              rw [List.drop_eq_nil_of_le (by show 4 ≤ j; omega)] at A
              unfold dirsF at A
              obtain rfl := Option.some.inj A
              have ci := CL.out
              have cb := CB.out
              clear A AD
              go_wp2
              go_roundg k1
              case measure => have := HK1.out; omega
              case rel => exact ⟨i + 1, (fo, ba), by go_num, HR, ⟨by have := HK1.out; omega⟩, HX⟩
        · rw [dif_neg c] at H
          obtain rfl := Option.some.inj H
          go_wp2
          go_ret2
          exact ⟨_, _, rfl, HI.out.row, HI.out.map, GM.out, HI.out.bel⟩

def wayF (ba : Back) (f0 f1 : Int) : Nat → P2 → List P2 → Option (List P2)
  | 0, _, _ => none
  | k + 1, p, way => if p.f0 = f0 ∧ p.f1 = f1 then some way else (if ptOk p ∧ way.length < 1000000 then wayF ba f0 f1 k ((bGet ba p).getD ⟨0, 0⟩) (way ++ [(bGet ba p).getD ⟨0, 0⟩]) else none)
def screen_Way.f (k : Nat) (l0 : List S48) (l1 : List P2) (a2_0 a2_1 a2_2 a2_3 a3_0 a3_1 a4_0 a4_1 : Int) : Option (List P2 × Bool × Int) :=
  (screen_ends.f k l0 l1 a2_0 a2_1 a2_2 a2_3 [⟨a3_0, a3_1⟩, ⟨a4_0, a4_1⟩]).bind fun e => if e = 0 then
    (screen_spread.f k l0 l1 a2_0 a2_1 a2_2 a2_3 a3_0 a3_1).bind fun s => (if ptOk ⟨a4_0, a4_1⟩ then
      (if (bGet s.2 ⟨a4_0, a4_1⟩).isSome = true then (wayF s.2 a3_0 a3_1 k ⟨a4_0, a4_1⟩ [⟨a4_0, a4_1⟩]).bind fun wy => (api_Point_25.f k wy).bind fun rv => some (rv, true, 0) else some ([], false, 0)) else none)
  else some ([], false, e)
theorem blk_any {w : World} {g : Nat} {o o2 : Obj} (h : w.heap[g]? = some o) : (w.alloc o2).heap[g]? = some o := by
  have hl := (Array.getElem?_eq_some_iff.1 h).1
  show (w.heap.push o2)[g]? = some o
  rw [Array.getElem?_push_lt hl, ← h, Array.getElem?_eq_getElem hl]
theorem three_boxes (w : World) (o1 o2 o3 : Obj) : (((w.alloc o1).alloc o2).alloc o3).heap[w.heap.size]? = some o1 ∧ (((w.alloc o1).alloc o2).alloc o3).heap[w.heap.size + 1]? = some o2 ∧ (((w.alloc o1).alloc o2).alloc o3).heap[w.heap.size + 1 + 1]? = some o3 ∧ Below w.heap.size w (((w.alloc o1).alloc o2).alloc o3) := by
  have e1 := alloc_size w o1
  have e2 := alloc_size (w.alloc o1) o2
  have h2 := heap_newk (w.alloc o1) o2
  have h3 := heap_newk ((w.alloc o1).alloc o2) o3
  rw [e1] at e2 h2
  rw [e2] at h3
  exact ⟨blk_any (blk_any (heap_newk w o1)), blk_any h2, h3, below_alloc (below_alloc (below_alloc (Below.refl _ _) _) _) _⟩
structure WayAt (w : World) (g g8 : Nat) (ba : Back) (a3_0 a3_1 : Int) (W : World) (gp : Nat) (p : P2) (v : Value) (way : List P2) : Prop where
  bel : Below w.heap.size w W
  base : w.heap.size ≤ gp
  ne : gp ≠ g8
  map : MapIs W g ba
  box : W.heap[g8]? = some (.cells #[.int .i64 a3_0, .int .i64 a3_1] 25 (0, 0))
  at_ : W.heap[gp]? = some (.cells #[.int .i64 p.f0, .int .i64 p.f1] 25 (0, 0))
  row : Kd.R k25 25 W w.heap.size (fun k_ => k_ ≠ g8 ∧ k_ ≠ gp) v way
set_option maxHeartbeats 8000000 in
theorem screen_Way.calls (k : Nat) (A0 : Option Addr) (c0 : Nat) (l0 : List S48) (A1 : Option Addr) (c1 : Nat) (l1 : List P2) (a2_0 a2_1 a2_2 a2_3 a3_0 a3_1 a4_0 a4_1 : Int) (r1 : List P2) (r2 : Bool) (r3 : Int) (w : World)
    (hr0 : Kd.C k48 w A0 l0.length l0) (hc0 : l0.length ≤ c0) (hr1 : Kd.C k25 w A1 l1.length l1) (hc1 : l1.length ≤ c1) (h : screen_Way.f k l0 l1 a2_0 a2_1 a2_2 a2_3 a3_0 a3_1 a4_0 a4_1 = some (r1, r2, r3)) :
    Calls Try.prog 9 #[.slice A0 l0.length c0, .slice A1 l1.length c1, .agg #[.int .i64 a2_0, .int .i64 a2_1, .int .i64 a2_2, .int .i64 a2_3], .agg #[.int .i64 a3_0, .int .i64 a3_1], .agg #[.int .i64 a4_0, .int .i64 a4_1]] w fun e w' => ∃ v0_ : Value, e = .returned (.tuple #[v0_, .bool r2, .int .i64 r3]) ∧ Kd.R k25 25 w' w.heap.size (fun _ => True) v0_ r1 ∧ Below w.heap.size w w' := by
  have hu := Try.underlying25
  have HR0 := Aside0.mk hr0
  have HR1 := Aside0.mk hr1
  have HC0 := Aside0.mk hc0
  have HC1 := Aside0.mk hc1
  obtain ⟨en, AE, H⟩ := Option.bind_eq_some_iff.mp h
  have HH := Aside0.mk H
  have AE := Aside0.mk AE
  clear hr0 hr1 hc0 hc1 h H
  go_enter Try.func9, Try.ntmps9
  go_upto_region 1 with fail
  obtain ⟨B7, B8, B9, BB⟩ := three_boxes w (.cells #[.int .i64 a2_0, .int .i64 a2_1, .int .i64 a2_2, .int .i64 a2_3] 27) (.cells #[.int .i64 a3_0, .int .i64 a3_1] 25) (.cells #[.int .i64 a4_0, .int .i64 a4_1] 25)
  generalize ((w.alloc (.cells #[.int .i64 a2_0, .int .i64 a2_1, .int .i64 a2_2, .int .i64 a2_3] 27)).alloc (.cells #[.int .i64 a3_0, .int .i64 a3_1] 25)).alloc (.cells #[.int .i64 a4_0, .int .i64 a4_1] 25) = w2 at B7 B8 B9 BB ⊢
  have GG : Aside0 (w.heap.size ≤ w.heap.size + 1 ∧ w.heap.size ≤ w.heap.size + 1 + 1) := ⟨by omega, by omega⟩
  generalize w.heap.size + 1 + 1 = g9 at B9 GG ⊢
  generalize w.heap.size + 1 = g8 at B8 GG ⊢
  have H7 := Aside0.mk B7
  have H8 := Aside0.mk B8
  have H9 := Aside0.mk B9
  have HB := Aside0.mk BB
  have b0 : w2.cell? ⟨w.heap.size, 0, none⟩ = some (.int .i64 a2_0) := (blk_cell B7 0).trans rfl
  have b1 : w2.cell? ⟨w.heap.size, 1, none⟩ = some (.int .i64 a2_1) := (blk_cell B7 1).trans rfl
  have b2 : w2.cell? ⟨w.heap.size, 2, none⟩ = some (.int .i64 a2_2) := (blk_cell B7 2).trans rfl
  have b3 : w2.cell? ⟨w.heap.size, 3, none⟩ = some (.int .i64 a2_3) := (blk_cell B7 3).trans rfl
  have f0 : w2.cell? ⟨g8, 0, none⟩ = some (.int .i64 a3_0) := (blk_cell B8 0).trans rfl
  have f1 : w2.cell? ⟨g8, 1, none⟩ = some (.int .i64 a3_1) := (blk_cell B8 1).trans rfl
  have t0 : w2.cell? ⟨g9, 0, none⟩ = some (.int .i64 a4_0) := (blk_cell B9 0).trans rfl
  have t1 : w2.cell? ⟨g9, 1, none⟩ = some (.int .i64 a4_1) := (blk_cell B9 1).trans rfl
  clear B7 B8 B9 BB
  go_wp2_with (first | ((with_reducible refine gate_dst (N := 25) rfl ?_); refine Kd.R_lit k25 _ 25 ?hg (N := 25) ?hd (xs := ([(⟨a3_0, a3_1⟩ : P2), (⟨a4_0, a4_1⟩ : P2)] : List P2)) (inner := [.int .i64 a3_0, .int .i64 a3_1, .int .i64 a4_0, .int .i64 a4_1]) (ok := fun _ => True) (okp := fun _ => True) ?hr ?hp (fun _ hk => hk) trivial (Below.refl _ _) (Nat.le_refl _) (by simp) ?_; (case hd => rfl); (case hg => rfl); (case hr => first | (go_simp; done) | (go_simp; rfl)); (case hp => exact (Reps.c2 (show Kd.M k25 _ _ _ (⟨a3_0, a3_1⟩ : P2) [.int .i64 a3_0, .int .i64 a3_1] from (k25_mkM _ _ _ (⟨a3_0, a3_1⟩ : P2))) (Reps.c2 (show Kd.M k25 _ _ _ (⟨a4_0, a4_1⟩ : P2) [.int .i64 a4_0, .int .i64 a4_1] from (k25_mkM _ _ _ (⟨a4_0, a4_1⟩ : P2))) (Reps.none _ _)))); intro v25 w3 ho hb hg_ hnew_; clear hg_ hnew_; obtain ⟨A25, c25, e25⟩ := Kd.R_slice ho; subst e25; have RR := Aside0.mk (Kd.R_reads' ho); have HB3 := Aside0.mk hb; clear ho hb))
  refine (screen_ends.calls k A0 c0 l0 A1 c1 l1 a2_0 a2_1 a2_2 a2_3 _ _ [⟨a3_0, a3_1⟩, ⟨a4_0, a4_1⟩] en w3 (Kd.C_below HR0.out (below_step HB.out HB3.out)) HC0.out (Kd.C_below HR1.out (below_step HB.out HB3.out)) HC1.out RR.out.2.2 RR.out.2.1 AE.out).mono ?_
  rintro e w4 ⟨rfl, hb⟩
  have hb := below_step HB3.out hb
  have N7 := Aside0.mk (blk_below (g := w.heap.size) (o := .cells #[.int .i64 a2_0, .int .i64 a2_1, .int .i64 a2_2, .int .i64 a2_3] 27 (0, 0)) H7.out hb)
  have N8 := Aside0.mk (blk_below (g := g8) (o := .cells #[.int .i64 a3_0, .int .i64 a3_1] 25 (0, 0)) H8.out hb)
  have N9 := Aside0.mk (blk_below (g := g9) (o := .cells #[.int .i64 a4_0, .int .i64 a4_1] 25 (0, 0)) H9.out hb)
  have HB4 := Aside0.mk (below_step HB.out hb)
  clear hb b0 b1 b2 b3 f0 f1 t0 t1 H7 H8 H9 HB HB3 RR AE
  by_cases ce : en = 0
  · have H2 := HH.out
    rw [if_pos ce] at H2
    subst ce
    obtain ⟨s, AS, H3⟩ := Option.bind_eq_some_iff.mp H2
    obtain ⟨hok, H4⟩ := law_some H3
    have AS := Aside0.mk AS
    have HOK := Aside0.mk hok
    have H5 := Aside0.mk H4
    have b0 : w4.cell? ⟨w.heap.size, 0, none⟩ = some (.int .i64 a2_0) := (blk_cell N7.out 0).trans rfl
    have b1 : w4.cell? ⟨w.heap.size, 1, none⟩ = some (.int .i64 a2_1) := (blk_cell N7.out 1).trans rfl
    have b2 : w4.cell? ⟨w.heap.size, 2, none⟩ = some (.int .i64 a2_2) := (blk_cell N7.out 2).trans rfl
    have b3 : w4.cell? ⟨w.heap.size, 3, none⟩ = some (.int .i64 a2_3) := (blk_cell N7.out 3).trans rfl
    have f0 : w4.cell? ⟨g8, 0, none⟩ = some (.int .i64 a3_0) := (blk_cell N8.out 0).trans rfl
    have f1 : w4.cell? ⟨g8, 1, none⟩ = some (.int .i64 a3_1) := (blk_cell N8.out 1).trans rfl
    clear H2 H3 H4 HH hok
    go_wp2_with fail
    refine (screen_spread.calls k A0 c0 l0 A1 c1 l1 a2_0 a2_1 a2_2 a2_3 a3_0 a3_1 s w4 (Kd.C_below HR0.out HB4.out) HC0.out (Kd.C_below HR1.out HB4.out) HC1.out AS.out).mono ?_
    rintro e w5 ⟨vf, gm, rfl, hrow, hmap, hgm, hb⟩
    have M5 := Aside0.mk hmap
    have N8' := Aside0.mk (blk_below (g := g8) (o := .cells #[.int .i64 a3_0, .int .i64 a3_1] 25 (0, 0)) N8.out hb)
    have N9' := Aside0.mk (blk_below (g := g9) (o := .cells #[.int .i64 a4_0, .int .i64 a4_1] 25 (0, 0)) N9.out hb)
    have HB5 := Aside0.mk (below_step HB4.out hb)
    obtain ⟨Af, cf, ef⟩ := Kd.R_slice hrow
    subst ef
    clear hrow hmap hgm hb b0 b1 b2 b3 f0 f1 N7 N8 N9 HB4 AS
    have t0 : w5.cell? ⟨g9, 0, none⟩ = some (.int .i64 a4_0) := (blk_cell N9'.out 0).trans rfl
    have t1 : w5.cell? ⟨g9, 1, none⟩ = some (.int .i64 a4_1) := (blk_cell N9'.out 1).trans rfl
    go_upto_region 6 with (first | (at_lookup; refine MapIs.look_ok rfl _ _ rfl rfl M5.out (⟨a4_0, a4_1⟩ : P2) HOK.out rfl ?_; intro kp kb ekp ekb; have EK := Aside0.mk ekb; clear ekp ekb))
    have M6 := Aside0.mk (M5.out.below (below_alloc (Below.refl _ _) (.cells #[.int .i64 kp.f0, .int .i64 kp.f1] 25)))
    have N86 := Aside0.mk (blk_any (o2 := .cells #[.int .i64 kp.f0, .int .i64 kp.f1] 25) N8'.out)
    have N96 := Aside0.mk (blk_any (o2 := .cells #[.int .i64 kp.f0, .int .i64 kp.f1] 25) N9'.out)
    have HB6 := Aside0.mk (below_alloc HB5.out (.cells #[.int .i64 kp.f0, .int .i64 kp.f1] 25))
    generalize w5.alloc (.cells #[.int .i64 kp.f0, .int .i64 kp.f1] 25) = w6 at M6 N86 N96 HB6 ⊢
    clear M5 N8' N9' HB5 t0 t1
    cases kb with
    | false =>
      have H6 := H5.out
      rw [← EK.out, if_neg (by decide)] at H6
      simp only [Option.some.injEq, Prod.mk.injEq] at H6
      obtain ⟨rfl, rfl, rfl⟩ := H6
      clear H5 EK
      go_wp2
      go_ret3
      exact ⟨_, rfl, Kd.R_nil _ _ _ _ _, HB6.out⟩
    | true =>
      have H6 := H5.out
      rw [← EK.out, if_pos rfl] at H6
      obtain ⟨wy, AW, H7⟩ := Option.bind_eq_some_iff.mp H6
      obtain ⟨rv, AR, H8⟩ := Option.bind_eq_some_iff.mp H7
      simp only [Option.some.injEq, Prod.mk.injEq] at H8
      obtain ⟨rfl, rfl, rfl⟩ := H8
      have AW := Aside0.mk AW
      have AR := Aside0.mk AR
      have t0 : w6.cell? ⟨g9, 0, none⟩ = some (.int .i64 a4_0) := (blk_cell N96.out 0).trans rfl
      have t1 : w6.cell? ⟨g9, 1, none⟩ = some (.int .i64 a4_1) := (blk_cell N96.out 1).trans rfl
      clear H5 H6 H7 EK
      go_upto_region 9 with (first | ((with_reducible refine gate_dst (N := 47) rfl ?_); refine Kd.R_lit k25 _ 25 ?hg (N := 47) ?hd (xs := ([(⟨a4_0, a4_1⟩ : P2)] : List P2)) (inner := [.int .i64 a4_0, .int .i64 a4_1]) (ok := fun k_ => w6.heap.size ≤ k_) (okp := fun k_ => w6.heap.size ≤ k_) ?hr ?hp (fun _ hk => hk) (Nat.le_refl _) (Below.refl _ _) (Nat.le_refl _) (by simp) ?_; (case hd => rfl); (case hg => rfl); (case hr => first | (go_simp; done) | (go_simp; rfl)); (case hp => exact (Reps.c2 (show Kd.M k25 _ _ _ (⟨a4_0, a4_1⟩ : P2) [.int .i64 a4_0, .int .i64 a4_1] from (k25_mkM _ _ _ (⟨a4_0, a4_1⟩ : P2))) (Reps.none _ _))); intro v18 w7 ho hb hg_ hnew_; clear hg_ hnew_; have RW7 := Aside0.mk (Kd.R_lower (base' := w.heap.size) ho (below_size HB6.out)); have M7 := Aside0.mk (M6.out.below hb); have N87 := Aside0.mk (blk_below (g := g8) (o := .cells #[.int .i64 a3_0, .int .i64 a3_1] 25 (0, 0)) N86.out hb); have N97 := Aside0.mk (blk_below (g := g9) (o := .cells #[.int .i64 a4_0, .int .i64 a4_1] 25 (0, 0)) N96.out hb); have HB7 := Aside0.mk (below_step HB6.out hb); have LT7 := Aside0.mk (Kd.R_lt ho); clear ho hb))
      have G86 := Aside0.mk (Array.getElem?_eq_some_iff.1 N86.out).1
      clear M6 N86 N96 HB6 t0 t1
      have t0 : w7.cell? ⟨g9, 0, none⟩ = some (.int .i64 a4_0) := (blk_cell N97.out 0).trans rfl
      have t1 : w7.cell? ⟨g9, 1, none⟩ = some (.int .i64 a4_1) := (blk_cell N97.out 1).trans rfl
      go_wp2
      have WA := Aside0.mk (show WayAt w gm g8 s.2 a3_0 a3_1 (w7.alloc (.cells #[.int .i64 a4_0, .int .i64 a4_1] 25)) w7.heap.size ⟨a4_0, a4_1⟩ v18 [⟨a4_0, a4_1⟩] from
        ⟨below_alloc HB7.out _, below_size HB7.out, by have := (Array.getElem?_eq_some_iff.1 N87.out).1; omega, M7.out.below (below_alloc (Below.refl _ _) _), blk_any N87.out, heap_newk _ _, Kd.R_mono (Kd.R_below (Kd.R_mono (Kd.R_bound RW7.out) (ok' := fun k_ => k_ ≠ g8 ∧ k_ ≠ w7.heap.size) (fun k_ hk => ⟨by have := G86.out; have := hk.1; omega, by have := hk.2.2.1; omega⟩)) (below_alloc (Below.refl _ _) _)) (fun _ hk => hk)⟩)
      clear RW7 M7 N87 N97 HB7 LT7 G86 t0 t1
      go_loopg [18, 19] k (fun kq v18 v19 wr => ∃ (gp : Nat) (p : P2) (way : List P2), v19 = .pointer (some ⟨gp, 0, none⟩) ∧ Aside0 (wayF s.2 a3_0 a3_1 kq p way = some wy) ∧ Aside0 (kq ≤ k) ∧ Aside0 (WayAt w gm g8 s.2 a3_0 a3_1 wr gp p v18 way))
      case atStart => exact ⟨_, _, _, rfl, AW, ⟨Nat.le_refl _⟩, WA⟩
      case round =>
        clear AW WA
        obtain ⟨gp, p, way, rfl, AW, HK1, WA⟩ := hrel
        obtain ⟨Aw, cw, ew⟩ := Kd.R_slice WA.out.row
        subst ew
        cases gk with
        | zero => exact absurd AW.out (by simp [wayF])
        | succ k1 =>
          have H := AW.out
          clear AW
          unfold wayF at H
          have p0 : wr.cell? ⟨gp, 0, none⟩ = some (.int .i64 p.f0) := (blk_cell WA.out.at_ 0).trans rfl
          have p1 : wr.cell? ⟨gp, 1, none⟩ = some (.int .i64 p.f1) := (blk_cell WA.out.at_ 1).trans rfl
          have f0 : wr.cell? ⟨g8, 0, none⟩ = some (.int .i64 a3_0) := (blk_cell WA.out.box 0).trans rfl
          have f1 : wr.cell? ⟨g8, 1, none⟩ = some (.int .i64 a3_1) := (blk_cell WA.out.box 1).trans rfl
          by_cases ce : p.f0 = a3_0 ∧ p.f1 = a3_1
          · rw [if_pos ce] at H
            obtain rfl := Option.some.inj H
            clear H
            go_wp2_with fail
            refine (api_Point_25.calls k (fun k_ => k_ ≠ g8 ∧ k_ ≠ gp) (.slice Aw way.length cw) way rv w wr WA.out.bel WA.out.row AR.out).mono ?_
            rintro e w9 ⟨rfl, hrow, hb, _⟩
            have RW9 := Aside0.mk (Kd.R_mono hrow (ok' := fun _ => True) (fun _ _ => trivial))
            have HB9 := Aside0.mk hb
            have EL := Aside0.mk (Kd.R_reads' hrow).1
            clear hrow hb p0 p1 f0 f1 ce WA
            go_wp2
            go_ret3
            exact ⟨_, rfl, RW9.out, HB9.out⟩
          · rw [if_neg ce] at H
            obtain ⟨⟨hok, hl⟩, H2⟩ := law_some H
            have HOK2 := Aside0.mk hok
            have HL := Aside0.mk hl
            have H2 := Aside0.mk H2
            clear H hok hl
            have WG := Aside0.mk WA.out.base
            have GP8 := Aside0.mk (Ne.symm WA.out.ne)
            have fz0 := blk_frozen WA.out.at_ 0
            have fz1 := blk_frozen WA.out.at_ 1
            by_cases c0 : p.f0 = a3_0
            · have c1 : ¬ p.f1 = a3_1 := fun z => ce ⟨c0, z⟩
              clear ce
              have C0 := Aside0.mk c0
              go_upto_region 12 with (first | (at_lookup; refine MapIs.look rfl _ _ rfl rfl WA.out.map p HOK2.out (by show Value.agg _ = Value.agg _; rw [C0.out]) ?_; intro q eq; have EQ := Aside0.mk eq; clear eq))
              have eb := Kd.R_typed WA.out.row
              have GN := Aside0.mk (show gm ≠ gp from fun e => by obtain ⟨_, es, cl, hm, _⟩ := WA.out.map; rw [e, WA.out.at_] at hm; exact absurd hm (by simp))
              have GO := Aside0.mk WA.out.row.1
              have X1 := Aside0.mk (show WayAt w gm g8 s.2 a3_0 a3_1 ((wr.setCell ⟨gp, 0, none⟩ (.int .i64 q.f0)).setCell ⟨gp, 1, none⟩ (.int .i64 q.f1)) gp q (.slice Aw way.length cw) way from
                ⟨below_set (below_set WA.out.bel WG.out) WG.out, WG.out, Ne.symm GP8.out, (WA.out.map.far GN.out _).far GN.out _, blk_far (blk_far WA.out.box GP8.out _) GP8.out _, blk_put (cs := #[.int .i64 q.f0, .int .i64 p.f1]) (blk_put (cs := #[.int .i64 p.f0, .int .i64 p.f1]) WA.out.at_ 0 _ rfl) 1 _ rfl, Kd.R_far (Kd.R_far WA.out.row (fun k_ hk => hk.2) _) (fun k_ hk => hk.2) _⟩)
              generalize (wr.setCell ⟨gp, 0, none⟩ (.int .i64 q.f0)).setCell ⟨gp, 1, none⟩ (.int .i64 q.f1) = w8 at X1 ⊢
              clear eb WA p0 p1 f0 f1 fz0 fz1
              have q0 : w8.cell? ⟨gp, 0, none⟩ = some (.int .i64 q.f0) := (blk_cell X1.out.at_ 0).trans rfl
              have q1 : w8.cell? ⟨gp, 1, none⟩ = some (.int .i64 q.f1) := (blk_cell X1.out.at_ 1).trans rfl
              go_upto_region 13 with (first | ((with_reducible refine gate_builtin (b := .append) (xs := #[.tmp 55, .tmp 57]) rfl ?_); at_builtin; refine Kd.R_append k25 (w0 := w) w.heap.size rfl (.tmp 55) (.tmp 57) 23 25 (.agg #[(.int .i64 0), (.int .i64 0)]) 16 rfl Try.underlying23 info25 rfl (by decide) (by omega) (.slice Aw way.length cw) way q [.int .i64 q.f0, .int .i64 q.f1] (fun k_ => k_ ≠ g8 ∧ k_ ≠ gp) (fun _ => False) rfl rfl (k25_mkM _ _ _ q) (fun _ hk => hk.elim) (fun k_ hk => by have l1 := (Array.getElem?_eq_some_iff.1 X1.out.box).1; have l2 := (Array.getElem?_eq_some_iff.1 X1.out.at_).1; omega) X1.out.row X1.out.bel (below_size X1.out.bel) (by have := HL.out; omega) ?_; intro v10 w10 ho hb10 hg hat; have X2 := Aside0.mk (show WayAt w gm g8 s.2 a3_0 a3_1 w10 gp q v10 (way ++ [q]) from ⟨hb10, WG.out, Ne.symm GP8.out, X1.out.map.grown hg (fun e => by obtain ⟨_, es, cl, hm, _⟩ := X1.out.map; obtain ⟨cells, hc⟩ := Kd.R_typed X1.out.row gm e.symm; rw [hm] at hc; exact absurd hc (by simp)), blk_grown (g := g8) (o := .cells #[.int .i64 a3_0, .int .i64 a3_1] 25 (0, 0)) X1.out.box hg (fun e => (GO.out g8 e.symm).1 rfl), blk_grown (g := gp) (o := .cells #[.int .i64 q.f0, .int .i64 q.f1] 25 (0, 0)) X1.out.at_ hg (fun e => (GO.out gp e.symm).2 rfl), ho⟩); obtain ⟨Ao, co, eo⟩ := Kd.R_slice ho; subst eo; clear ho hb10 hg hat q0 q1))
              have q0 : w10.cell? ⟨gp, 0, none⟩ = some (.int .i64 q.f0) := (blk_cell X2.out.at_ 0).trans rfl
              have q1 : w10.cell? ⟨gp, 1, none⟩ = some (.int .i64 q.f1) := (blk_cell X2.out.at_ 1).trans rfl
              have X3 := Aside0.mk (show WayAt w gm g8 s.2 a3_0 a3_1 (w10.alloc (.cells #[.int .i64 q.f0, .int .i64 q.f1] 25)) w10.heap.size q (.slice Ao (way ++ [q]).length co) (way ++ [q]) from
                ⟨below_alloc X2.out.bel _, below_size X2.out.bel, by have := (Array.getElem?_eq_some_iff.1 X2.out.box).1; omega, X2.out.map.below (below_alloc (Below.refl _ _) _), blk_any X2.out.box, heap_newk _ _, Kd.R_mono (Kd.R_below (Kd.R_mono (Kd.R_bound X2.out.row) (ok' := fun k_ => k_ ≠ g8 ∧ k_ ≠ w10.heap.size) (fun k_ hk => ⟨hk.1.1, by have := hk.2.2.1; omega⟩)) (below_alloc (Below.refl _ _) _)) (fun _ hk => hk)⟩)
              have X4 : Aside0 (WayAt w gm g8 s.2 a3_0 a3_1 (w10.alloc (.cells #[.int .i64 q.f0, .int .i64 q.f1] 25)) w10.heap.size q (.slice Ao (way.length + 1) co) (way ++ [q])) := ⟨by have h_ := X3.out; rw [List.length_append] at h_; exact h_⟩
              have H3 : Aside0 (wayF s.2 a3_0 a3_1 k1 q (way ++ [q]) = some wy) := ⟨by rw [EQ.out]; exact H2.out⟩
              clear X1 X3 H2
              go_wp2
              go_roundg k1
              case measure => have := HK1.out; omega
              case rel => exact ⟨w10.heap.size, q, way ++ [q], rfl, H3, ⟨by have := HK1.out; omega⟩, X4⟩
            · clear ce
              go_upto_region 12 with (first | (at_lookup; refine MapIs.look rfl _ _ rfl rfl WA.out.map p HOK2.out rfl ?_; intro q eq; have EQ := Aside0.mk eq; clear eq))
              have eb := Kd.R_typed WA.out.row
              have GN := Aside0.mk (show gm ≠ gp from fun e => by obtain ⟨_, es, cl, hm, _⟩ := WA.out.map; rw [e, WA.out.at_] at hm; exact absurd hm (by simp))
              have GO := Aside0.mk WA.out.row.1
              have X1 := Aside0.mk (show WayAt w gm g8 s.2 a3_0 a3_1 ((wr.setCell ⟨gp, 0, none⟩ (.int .i64 q.f0)).setCell ⟨gp, 1, none⟩ (.int .i64 q.f1)) gp q (.slice Aw way.length cw) way from
                ⟨below_set (below_set WA.out.bel WG.out) WG.out, WG.out, Ne.symm GP8.out, (WA.out.map.far GN.out _).far GN.out _, blk_far (blk_far WA.out.box GP8.out _) GP8.out _, blk_put (cs := #[.int .i64 q.f0, .int .i64 p.f1]) (blk_put (cs := #[.int .i64 p.f0, .int .i64 p.f1]) WA.out.at_ 0 _ rfl) 1 _ rfl, Kd.R_far (Kd.R_far WA.out.row (fun k_ hk => hk.2) _) (fun k_ hk => hk.2) _⟩)
              generalize (wr.setCell ⟨gp, 0, none⟩ (.int .i64 q.f0)).setCell ⟨gp, 1, none⟩ (.int .i64 q.f1) = w8 at X1 ⊢
              clear eb WA p0 p1 f0 f1 fz0 fz1
              have q0 : w8.cell? ⟨gp, 0, none⟩ = some (.int .i64 q.f0) := (blk_cell X1.out.at_ 0).trans rfl
              have q1 : w8.cell? ⟨gp, 1, none⟩ = some (.int .i64 q.f1) := (blk_cell X1.out.at_ 1).trans rfl
              go_upto_region 13 with (first | ((with_reducible refine gate_builtin (b := .append) (xs := #[.tmp 55, .tmp 57]) rfl ?_); at_builtin; refine Kd.R_append k25 (w0 := w) w.heap.size rfl (.tmp 55) (.tmp 57) 23 25 (.agg #[(.int .i64 0), (.int .i64 0)]) 16 rfl Try.underlying23 info25 rfl (by decide) (by omega) (.slice Aw way.length cw) way q [.int .i64 q.f0, .int .i64 q.f1] (fun k_ => k_ ≠ g8 ∧ k_ ≠ gp) (fun _ => False) rfl rfl (k25_mkM _ _ _ q) (fun _ hk => hk.elim) (fun k_ hk => by have l1 := (Array.getElem?_eq_some_iff.1 X1.out.box).1; have l2 := (Array.getElem?_eq_some_iff.1 X1.out.at_).1; omega) X1.out.row X1.out.bel (below_size X1.out.bel) (by have := HL.out; omega) ?_; intro v10 w10 ho hb10 hg hat; have X2 := Aside0.mk (show WayAt w gm g8 s.2 a3_0 a3_1 w10 gp q v10 (way ++ [q]) from ⟨hb10, WG.out, Ne.symm GP8.out, X1.out.map.grown hg (fun e => by obtain ⟨_, es, cl, hm, _⟩ := X1.out.map; obtain ⟨cells, hc⟩ := Kd.R_typed X1.out.row gm e.symm; rw [hm] at hc; exact absurd hc (by simp)), blk_grown (g := g8) (o := .cells #[.int .i64 a3_0, .int .i64 a3_1] 25 (0, 0)) X1.out.box hg (fun e => (GO.out g8 e.symm).1 rfl), blk_grown (g := gp) (o := .cells #[.int .i64 q.f0, .int .i64 q.f1] 25 (0, 0)) X1.out.at_ hg (fun e => (GO.out gp e.symm).2 rfl), ho⟩); obtain ⟨Ao, co, eo⟩ := Kd.R_slice ho; subst eo; clear ho hb10 hg hat q0 q1))
              have q0 : w10.cell? ⟨gp, 0, none⟩ = some (.int .i64 q.f0) := (blk_cell X2.out.at_ 0).trans rfl
              have q1 : w10.cell? ⟨gp, 1, none⟩ = some (.int .i64 q.f1) := (blk_cell X2.out.at_ 1).trans rfl
              have X3 := Aside0.mk (show WayAt w gm g8 s.2 a3_0 a3_1 (w10.alloc (.cells #[.int .i64 q.f0, .int .i64 q.f1] 25)) w10.heap.size q (.slice Ao (way ++ [q]).length co) (way ++ [q]) from
                ⟨below_alloc X2.out.bel _, below_size X2.out.bel, by have := (Array.getElem?_eq_some_iff.1 X2.out.box).1; omega, X2.out.map.below (below_alloc (Below.refl _ _) _), blk_any X2.out.box, heap_newk _ _, Kd.R_mono (Kd.R_below (Kd.R_mono (Kd.R_bound X2.out.row) (ok' := fun k_ => k_ ≠ g8 ∧ k_ ≠ w10.heap.size) (fun k_ hk => ⟨hk.1.1, by have := hk.2.2.1; omega⟩)) (below_alloc (Below.refl _ _) _)) (fun _ hk => hk)⟩)
              have X4 : Aside0 (WayAt w gm g8 s.2 a3_0 a3_1 (w10.alloc (.cells #[.int .i64 q.f0, .int .i64 q.f1] 25)) w10.heap.size q (.slice Ao (way.length + 1) co) (way ++ [q])) := ⟨by have h_ := X3.out; rw [List.length_append] at h_; exact h_⟩
              have H3 : Aside0 (wayF s.2 a3_0 a3_1 k1 q (way ++ [q]) = some wy) := ⟨by rw [EQ.out]; exact H2.out⟩
              clear X1 X3 H2
              go_wp2
              go_roundg k1
              case measure => have := HK1.out; omega
              case rel => exact ⟨w10.heap.size, q, way ++ [q], rfl, H3, ⟨by have := HK1.out; omega⟩, X4⟩
  · have H2 := HH.out
    rw [if_neg ce] at H2
    simp only [Option.some.injEq, Prod.mk.injEq] at H2
    obtain ⟨rfl, rfl, rfl⟩ := H2
    have c0' : (en == 0) = false := beq_eq_false_iff_ne.2 ce
    have c1' : (en != 0) = true := bne_iff_ne.2 ce
    clear HH ce
    go_wp2
    go_ret3
    exact ⟨_, rfl, Kd.R_nil _ _ _ _ _, HB4.out⟩

def GrowsTo (w w' : World) : Prop := ∃ (q : Nat) (os : Array Obj), w' = Go.Sort.grow (w.drewN q) os
theorem GrowsTo.refl (w : World) : GrowsTo w w := ⟨0, #[], by rw [Go.Sort.grow_empty]; rfl⟩
theorem GrowsTo.alloc {w W : World} (h : GrowsTo w W) (o : Obj) : GrowsTo w (W.alloc o) := by
  obtain ⟨q, os, rfl⟩ := h
  exact ⟨q, os ++ #[o], by rw [Go.Sort.alloc_eq_grow, Go.Sort.grow_grow]⟩
theorem GrowsTo.drewN {w W : World} (h : GrowsTo w W) (n : Nat) : GrowsTo w (W.drewN n) := by
  obtain ⟨q, os, rfl⟩ := h
  exact ⟨q + n, os, by rw [← World.drewN_drewN]; rfl⟩
theorem GrowsTo.drew {w W : World} (h : GrowsTo w W) : GrowsTo w W.drew := h.drewN 1
theorem two_boxes (w : World) (o1 o2 : Obj) : ((w.alloc o1).alloc o2).heap[w.heap.size]? = some o1 ∧ ((w.alloc o1).alloc o2).heap[w.heap.size + 1]? = some o2 ∧ Below w.heap.size w ((w.alloc o1).alloc o2) := by
  have e1 := alloc_size w o1
  have h2 := heap_newk (w.alloc o1) o2
  rw [e1] at h2
  exact ⟨blk_any (heap_newk w o1), h2, below_alloc (below_alloc (Below.refl _ _) _) _⟩
section
variable {P : Program} {ops : Array Oper} {o : Oper} {a : Act} {Q : Exit → Act → World → Prop} {Kc : Act → World → Prop}
theorem R_lit_stepG {α : Type} (d : Kd α) {w0 W : World} (base e : Nat) (hw : Region.wanted o (yielded ops a.tmps) = true) {N : Tmp} (_hd : o.dst = some N) {xs : List α} {inner : List Value} {ok okp : Nat → Prop}
    (hrun : (execOp a.eval o).run P W = .ok (.value (.slice (some ⟨W.heap.size, 0, none⟩) xs.length xs.length)) (W.alloc (.cells inner.toArray e)))
    (hrep : Reps (d.M W base okp) d.sz xs inner) (hok : ∀ k, okp k → ok k) (hfresh : ok W.heap.size) (HB : Below base w0 W) (hbase : base ≤ W.heap.size) (hm : xs.length ≤ 9223372036854775807)
    (h : ∀ v1 w1, d.R e w1 base ok v1 xs → Below base w0 w1 → W.grownBy w1 none → (∃ b, v1.ownBlock = some b ∧ W.heap.size ≤ b) → w1 = W.alloc (.cells inner.toArray e) → Kc (a.put o.dst v1) w1) : if Region.wanted o (yielded ops a.tmps) = true then Oper.wp P o a W Kc Q else Kc (a.put o.dst undef) W := by
  refine event_step hw hrun (h _ _ ?_ (HB.alloc hbase _) (World.grownBy_alloc W _ none) ⟨W.heap.size, by simp [Value.ownBlock], Nat.le_refl _⟩ rfl)
  refine ⟨fun k hk => ?_, inner, ?_, ?_⟩
  · have : W.heap.size = k := by simpa [Value.ownBlock] using hk
    subst this
    exact hfresh
  · have h2 := World.ownsRow_lit (base := base) (e := e) (size := d.sz) W inner.toArray xs.length hbase (by simpa [maxLen] using hm) (by simpa using hrep.1)
    simpa using h2
  · refine hrep.imp_ (fun p c hp => d.M_mono (fun k hk => ⟨hok k hk.1, fun he => ?_⟩) (Kd.M_below (d.M_bound hp) (below_alloc (Below.refl _ _) _)))
    have h3 : k = W.heap.size := by simpa [Value.ownBlock] using he
    have := hk.2.2.1
    omega
end
set_option maxHeartbeats 8000000 in
set_option maxRecDepth 100000 in
theorem reachCmp.calls (k : Nat) (a0_0 : Int) (a0_1 : Int) (a1_0 : Int) (a1_1 : Int) (r : Int) (w : World) (h : screen_Reach_1.f k a0_0 a0_1 a1_0 a1_1 = some r) :
    Calls Try.prog 34 #[.agg #[.int .i64 a0_0, .int .i64 a0_1], .agg #[.int .i64 a1_0, .int .i64 a1_1]] w fun e w' => e = .returned (.int .i64 r) ∧ GrowsTo w w' := by
  have hu25 := Try.underlying25
  have HB := Aside0.mk (Below.refl w.heap.size w)
  have HG := Aside0.mk (GrowsTo.refl w)
  have H : ((cmp_Compare_int.f a0_0 a1_0).bind fun t312 => ((cmp_Compare_int.f a0_1 a1_1).bind fun t313 => ((cmp_Or_int.f k (([t312, t313] : List Int))).bind fun t317 => (some t317)))) = some r := h
  clear h
  replace H := Option.bind_eq_some_iff.mp H
  obtain ⟨t312, A30, H⟩ := H
  replace H : ((cmp_Compare_int.f a0_1 a1_1).bind fun t313 => ((cmp_Or_int.f k (([t312, t313] : List Int))).bind fun t317 => (some t317))) = some r := H
  have A3 := Aside0.mk A30
  clear A30
  replace H := Option.bind_eq_some_iff.mp H
  obtain ⟨t313, A40, H⟩ := H
  replace H : ((cmp_Or_int.f k (([t312, t313] : List Int))).bind fun t317 => (some t317)) = some r := H
  have A4 := Aside0.mk A40
  clear A40
  obtain ⟨y314, hy314⟩ : ∃ y_ : List Int, y_ = (([t312, t313] : List Int)) := ⟨_, rfl⟩
  replace H : ((cmp_Or_int.f k y314).bind fun t317 => (some t317)) = some r := by first | (rw [hy314]; with_reducible exact H) | (have H2_ := (Option.bind_some _ _).symm.trans H; rw [hy314]; with_reducible exact H2_) | (have H2_ := (Option.bind_some _ _).symm.trans H; with_reducible exact H2_) | with_reducible exact H | (rw [hy314]; exact H) | exact H
  have Ny314 := Aside0.mk hy314
  clear hy314
  replace H := Option.bind_eq_some_iff.mp H
  obtain ⟨t317, A50, H⟩ := H
  replace H : (some t317) = some r := H
  have A5 := Aside0.mk A50
  clear A50
  obtain rfl := Option.some.inj H
  go_enter Try.func34, Try.ntmps34
  go_upto_region 1 with fail
  obtain ⟨BA_, BB_, HBb_⟩ := two_boxes w (.cells #[.int .i64 a0_0, .int .i64 a0_1] 25) (.cells #[.int .i64 a1_0, .int .i64 a1_1] 25)
  have HGn := Aside0.mk ((HG.out.alloc (.cells #[.int .i64 a0_0, .int .i64 a0_1] 25)).alloc (.cells #[.int .i64 a1_0, .int .i64 a1_1] 25))
  generalize (w.alloc (.cells #[.int .i64 a0_0, .int .i64 a0_1] 25)).alloc (.cells #[.int .i64 a1_0, .int .i64 a1_1] 25) = w7 at BA_ BB_ HBb_ HGn ⊢
  have GW310 := Aside0.mk (Nat.le_refl w.heap.size)
  have GE310 := GW310
  have GE311 : Aside0 (w.heap.size ≤ w.heap.size + 1) := ⟨by omega⟩
  generalize hgb : w.heap.size + 1 = gb311 at BB_ GE311 ⊢
  generalize hga : w.heap.size = gb310 at BA_ GE310 ⊢
  clear hga hgb
  have BK310 := Aside0.mk (blk_drew BA_)
  have BK311 := Aside0.mk (blk_drew BB_)
  clear HB HG
  have HG := Aside0.mk HGn.out.drew
  clear BA_ BB_ HBb_ HGn
  refine start_ (n := 13) (S := fun w' => w'.cell? ⟨gb310, 0, none⟩ = some (.int .i64 a0_0) ∧ w'.cell? ⟨gb310, 1, none⟩ = some (.int .i64 a0_1) ∧ w'.cell? ⟨gb311, 0, none⟩ = some (.int .i64 a1_0) ∧ w'.cell? ⟨gb311, 1, none⟩ = some (.int .i64 a1_1)) (ds := []) #[false, false, false, false, false, false, false, false, false, false, false, false, false] (by kernel_rfl) rfl rfl ⟨(blk_cell BK310.out 0).trans rfl, (blk_cell BK310.out 1).trans rfl, (blk_cell BK311.out 0).trans rfl, (blk_cell BK311.out 1).trans rfl⟩ (fun hHeld => ?_); refine with_tabW screen_Reach_1.tab1 screen_Reach_1.bits1 (fun HT_ HW_ => ?_)
  generalize w7.drew = w8 at BK310 BK311 HG hHeld ⊢
  refine pure_ (i := 0) (N := some 5) (v := ?_) (a' := ?_) #[true, false, false, false, false, false, false, false, false, false, false, false, false] rfl rfl (any_of HT_.out (by kernel_rfl)) (fun _ _ _ h => h) (Or.inl ⟨by rfl, ?_⟩) ?_ ?_
  rotate_left
  · intro w'
    go_simp
    with_reducible rfl
  rotate_left
  · simp only [Act.put, List.setIfInBounds_toArray, List.set_cons_zero, List.set_cons_succ, i64_w, i32_w]
    rfl
  refine pure_ (i := 2) (N := some 7) (v := ?_) (a' := ?_) #[true, false, true, false, false, false, false, false, false, false, false, false, false] rfl rfl (any_of HT_.out (by kernel_rfl)) (fun _ _ _ h => h) (Or.inl ⟨by rfl, ?_⟩) ?_ ?_
  rotate_left
  · intro w'
    go_simp
    with_reducible rfl
  rotate_left
  · simp only [Act.put, List.setIfInBounds_toArray, List.set_cons_zero, List.set_cons_succ, i64_w, i32_w]
    rfl
  refine pure_ (i := 5) (N := some 10) (v := ?_) (a' := ?_) #[true, false, true, false, false, true, false, false, false, false, false, false, false] rfl rfl (any_of HT_.out (by kernel_rfl)) (fun _ _ _ h => h) (Or.inl ⟨by rfl, ?_⟩) ?_ ?_
  rotate_left
  · intro w'
    go_simp
    with_reducible rfl
  rotate_left
  · simp only [Act.put, List.setIfInBounds_toArray, List.set_cons_zero, List.set_cons_succ, i64_w, i32_w]
    rfl
  refine pure_ (i := 7) (N := some 12) (v := ?_) (a' := ?_) #[true, false, true, false, false, true, false, true, false, false, false, false, false] rfl rfl (any_of HT_.out (by kernel_rfl)) (fun _ _ _ h => h) (Or.inl ⟨by rfl, ?_⟩) ?_ ?_
  rotate_left
  · intro w'
    go_simp
    with_reducible rfl
  rotate_left
  · simp only [Act.put, List.setIfInBounds_toArray, List.set_cons_zero, List.set_cons_succ, i64_w, i32_w]
    rfl
  refine take_ (i := 1) (N := some 6) (v := ?_) (a' := ?_) #[true, true, true, false, false, true, false, true, false, false, false, false, false] rfl rfl (take_ofW HT_.out HW_.out (by kernel_rfl)) (fun _ _ _ h => h) (Or.inl ⟨by rfl, ?_⟩) hHeld ?_ ?_
  rotate_left
  · rintro w' ⟨s0, s1, s2, s3⟩
    go_simp
    with_reducible rfl
  rotate_left
  · simp only [Act.put, List.setIfInBounds_toArray, List.set_cons_zero, List.set_cons_succ, i64_w, i32_w]
    rfl
  refine take_ (i := 3) (N := some 8) (v := ?_) (a' := ?_) #[true, true, true, true, false, true, false, true, false, false, false, false, false] rfl rfl (take_ofW HT_.out HW_.out (by kernel_rfl)) (fun _ _ _ h => h) (Or.inl ⟨by rfl, ?_⟩) hHeld ?_ ?_
  rotate_left
  · rintro w' ⟨s0, s1, s2, s3⟩
    go_simp
    with_reducible rfl
  rotate_left
  · simp only [Act.put, List.setIfInBounds_toArray, List.set_cons_zero, List.set_cons_succ, i64_w, i32_w]
    rfl
  refine take_ (i := 6) (N := some 11) (v := ?_) (a' := ?_) #[true, true, true, true, false, true, true, true, false, false, false, false, false] rfl rfl (take_ofW HT_.out HW_.out (by kernel_rfl)) (fun _ _ _ h => h) (Or.inl ⟨by rfl, ?_⟩) hHeld ?_ ?_
  rotate_left
  · rintro w' ⟨s0, s1, s2, s3⟩
    go_simp
    with_reducible rfl
  rotate_left
  · simp only [Act.put, List.setIfInBounds_toArray, List.set_cons_zero, List.set_cons_succ, i64_w, i32_w]
    rfl
  refine take_ (i := 8) (N := some 13) (v := ?_) (a' := ?_) #[true, true, true, true, false, true, true, true, true, false, false, false, false] rfl rfl (take_ofW HT_.out HW_.out (by kernel_rfl)) (fun _ _ _ h => h) (Or.inl ⟨by rfl, ?_⟩) hHeld ?_ ?_
  rotate_left
  · rintro w' ⟨s0, s1, s2, s3⟩
    go_simp
    with_reducible rfl
  rotate_left
  · simp only [Act.put, List.setIfInBounds_toArray, List.set_cons_zero, List.set_cons_succ, i64_w, i32_w]
    rfl
  refine one_ (i := 4) (N := some 9) #[true, true, true, true, true, true, true, true, true, false, false, false, false] rfl rfl (one_of HT_.out (by kernel_rfl)) (by decide) (fun K hK => ?_)
  refine goes_ Try.func36 (by kernel_rfl) rfl #[.int .i64 a0_0, .int .i64 a1_0] (by rfl) rfl rfl (by (try simp only [List.map_toArray, List.map_cons, List.map_nil]); first | done | rfl | (simp only [List.length_drop, List.length_take]; rfl)) ?_
  with_reducible refine (cmp_Compare_int.calls a0_0 a1_0 t312 _ A3.out).mono ?_
  rintro e w' ⟨rfl, ⟨nd, rfl⟩⟩
  refine ⟨_, rfl, ?_⟩
  refine hK.out _ _ ⟨(blk_cell BK310.out 0).trans rfl, (blk_cell BK310.out 1).trans rfl, (blk_cell BK311.out 0).trans rfl, (blk_cell BK311.out 1).trans rfl⟩ (fun hHeld => ?_)
  clear hK K
  refine norm_ (a' := ?_) ?_ ?_
  rotate_left
  · show Act.put _ (some 9) _ = _
    simp only [Act.put, List.setIfInBounds_toArray, List.set_cons_zero, List.set_cons_succ, i64_w, i32_w]
    rfl
  refine one_ (i := 9) (N := some 14) #[true, true, true, true, true, true, true, true, true, true, false, false, false] rfl rfl (one_of HT_.out (by kernel_rfl)) (by decide) (fun K hK => ?_)
  refine goes_ Try.func36 (by kernel_rfl) rfl #[.int .i64 a0_1, .int .i64 a1_1] (by rfl) rfl rfl (by (try simp only [List.map_toArray, List.map_cons, List.map_nil]); first | done | rfl | (simp only [List.length_drop, List.length_take]; rfl)) ?_
  with_reducible refine (cmp_Compare_int.calls a0_1 a1_1 t313 _ A4.out).mono ?_
  rintro e w' ⟨rfl, ⟨nd, rfl⟩⟩
  refine ⟨_, rfl, ?_⟩
  refine hK.out _ _ ⟨(blk_cell BK310.out 0).trans rfl, (blk_cell BK310.out 1).trans rfl, (blk_cell BK311.out 0).trans rfl, (blk_cell BK311.out 1).trans rfl⟩ (fun hHeld => ?_)
  clear hK K
  refine norm_ (a' := ?_) ?_ ?_
  rotate_left
  · show Act.put _ (some 14) _ = _
    simp only [Act.put, List.setIfInBounds_toArray, List.set_cons_zero, List.set_cons_succ, i64_w, i32_w]
    rfl
  refine one_ (i := 10) (N := some 15) #[true, true, true, true, true, true, true, true, true, true, true, false, false] rfl rfl (one_of HT_.out (by kernel_rfl)) (by decide) (fun K hK => ?_)
  refine R_lit_stepG (Kd.int .i64) _ 3 ?hg (N := 15) ?hd (xs := ([t312, t313] : List Int)) (inner := [.int .i64 t312, .int .i64 t313]) (ok := fun _ => True) (okp := fun _ => True) ?hr ?hp (fun _ hk => hk) trivial (Below.refl _ _) (Nat.le_refl _) (by simp) ?_; (case hd => rfl); (case hg => rfl); (case hr => first | (go_simp; done) | (go_simp; rfl)); (case hp => exact (Reps.one (show Kd.M (Kd.int .i64) _ _ _ t312 [.int .i64 t312] from rfl) (Reps.one (show Kd.M (Kd.int .i64) _ _ _ t313 [.int .i64 t313] from rfl) (Reps.none _ _))))
  intro v315 w9 ho10 hb hg_ hnew_ hw_
  clear hg_ hnew_
  (first | rw [← Ny314.out] at ho10 | (simp only [Int.reduceToNat] at ho10; rw [← Ny314.out] at ho10))
  have n0_ := Aside0.mk ho10
  have n1_ := Aside0.mk (blk_below (g := gb310) (o := .cells #[.int .i64 a0_0, .int .i64 a0_1] 25 (0, 0)) (by (with_reducible repeat (first | refine blk_drewN ?_ _ | refine blk_drew ?_ | refine blk_alloc ?_ _)); exact BK310.out) hb)
  have n2_ := Aside0.mk (blk_below (g := gb311) (o := .cells #[.int .i64 a1_0, .int .i64 a1_1] 25 (0, 0)) (by (with_reducible repeat (first | refine blk_drewN ?_ _ | refine blk_drew ?_ | refine blk_alloc ?_ _)); exact BK311.out) hb)
  have n3_ : Aside0 (GrowsTo w w9) := ⟨by rw [hw_]; repeat (first | exact HG.out | (with_reducible apply GrowsTo.alloc) | (with_reducible apply GrowsTo.drewN) | (with_reducible apply GrowsTo.drew))⟩
  clear BK310
  clear BK311
  clear HG hw_
  have HO316 := n0_
  have BK310 := n1_
  have BK311 := n2_
  have HG := n3_
  clear n0_ n1_ n2_ n3_
  clear hb ho10
  obtain ⟨Ao11, co11, eo11⟩ := Kd.R_slice HO316.out
  (first | subst eo11 | (injection eo11 with f1_ f2_ f3_; have f4_ := f1_.symm; have f5_ := f3_.symm; clear f1_ f2_ f3_; subst f4_; subst f5_))
  refine hK.out _ _ ⟨(blk_cell BK310.out 0).trans rfl, (blk_cell BK310.out 1).trans rfl, (blk_cell BK311.out 0).trans rfl, (blk_cell BK311.out 1).trans rfl⟩ (fun hHeld => ?_)
  clear hK K
  refine norm_ (a' := ?_) ?_ ?_
  rotate_left
  · show Act.put _ (some 15) _ = _
    simp only [Act.put, List.setIfInBounds_toArray, List.set_cons_zero, List.set_cons_succ, i64_w, i32_w]
    rfl
  refine one_ (i := 11) (N := some 16) #[true, true, true, true, true, true, true, true, true, true, true, true, false] rfl rfl (one_of HT_.out (by kernel_rfl)) (by decide) (fun K hK => ?_)
  refine goes_ Try.func35 (by kernel_rfl) rfl #[.slice Ao11 y314.length co11] (by rfl) rfl rfl (by (try simp only [List.map_toArray, List.map_cons, List.map_nil]); first | done | rfl | (simp only [List.length_drop, List.length_take]; rfl)) ?_
  with_reducible refine (cmp_Or_int.calls k _ _ y314 t317 _ ?side1 ?side2 A5.out).mono ?_
  (case side1 => repeat (first | exact (Kd.R_reads' HO316.out).2.2 | (with_reducible refine Kd.C_alloc ?_ _) | (with_reducible refine Kd.C_drewN ?_ _) | (with_reducible refine Kd.C_drew ?_)))
  (case side2 => exact (Kd.R_reads' HO316.out).2.1)
  rintro e w' ⟨rfl, ⟨nd, rfl⟩⟩
  refine ⟨_, rfl, ?_⟩
  refine hK.out _ _ ⟨(blk_cell BK310.out 0).trans rfl, (blk_cell BK310.out 1).trans rfl, (blk_cell BK311.out 0).trans rfl, (blk_cell BK311.out 1).trans rfl⟩ (fun hHeld => ?_)
  clear hK K
  refine norm_ (a' := ?_) ?_ ?_
  rotate_left
  · show Act.put _ (some 16) _ = _
    simp only [Act.put, List.setIfInBounds_toArray, List.set_cons_zero, List.set_cons_succ, i64_w, i32_w]
    rfl
  refine pure_ (i := 12) (N := some 4) (v := ?_) (a' := ?_) #[true, true, true, true, true, true, true, true, true, true, true, true, true] rfl rfl (any_of HT_.out (by kernel_rfl)) (fun _ _ _ h => h) (Or.inl ⟨by rfl, ?_⟩) ?_ ?_
  rotate_left
  · intro w'
    go_simp
    with_reducible rfl
  rotate_left
  · simp only [Act.put, List.setIfInBounds_toArray, List.set_cons_zero, List.set_cons_succ, i64_w, i32_w]
    rfl
  refine done_ (done_of HT_.out (by kernel_rfl)) ?_
  try go_wp2
  go_ret
  exact ⟨by first | rfl | (simp [errW_none, errW_some] <;> rfl) | (simp [*, errW_none, errW_some] <;> rfl), by repeat (first | exact HG.out | (with_reducible apply GrowsTo.alloc) | (with_reducible apply GrowsTo.drewN) | (with_reducible apply GrowsTo.drew))⟩

def ptLay_ren : Go.Shelf.Ren := ⟨fun | 6 => 33 | 15 => 51 | 14 => 50 | 28 => 71 | 29 => 72 | 20 => 63 | 21 => 64 | 22 => 65 | 23 => 66 | 24 => 67 | 25 => 68 | 26 => 69 | 27 => 70 | 46 => 80 | 47 => 81 | 48 => 82 | 49 => 83 | 50 => 84 | 57 => 85 | n => n, fun | 22 => 23 | 24 => 25 | 25 => 68 | 3 => 3 | 39 => 43 | 0 => 0 | 53 => 101 | 55 => 103 | 4 => 4 | 46 => 94 | 45 => 93 | 50 => 98 | 5 => 5 | 9 => 9 | 66 => 109 | 70 => 113 | 76 => 115 | 77 => 116 | n => n, fun | n => n⟩
theorem ptLay : Go.Proofs.SlLaysF0.n6 Try.prog ptLay_ren where
  mixed := by kernel_rfl
  f6 := ⟨Try.f33.name, by decide, Try.func33.trans (congrArg some (by kernel_rfl))⟩
  f14 := ⟨Try.f50.name, by decide, Try.func50.trans (congrArg some (by kernel_rfl))⟩
  f15 := Try.func51.trans (congrArg some (by kernel_rfl))
  f20 := ⟨Try.f63.name, by decide, Try.func63.trans (congrArg some (by kernel_rfl))⟩
  f21 := ⟨Try.f64.name, by decide, Try.func64.trans (congrArg some (by kernel_rfl))⟩
  f22 := ⟨Try.f65.name, by decide, Try.func65.trans (congrArg some (by kernel_rfl))⟩
  f23 := ⟨Try.f66.name, by decide, Try.func66.trans (congrArg some (by kernel_rfl))⟩
  f24 := ⟨Try.f67.name, by decide, Try.func67.trans (congrArg some (by kernel_rfl))⟩
  f25 := ⟨Try.f68.name, by decide, Try.func68.trans (congrArg some (by kernel_rfl))⟩
  f26 := ⟨Try.f69.name, by decide, Try.func69.trans (congrArg some (by kernel_rfl))⟩
  f27 := ⟨Try.f70.name, by decide, Try.func70.trans (congrArg some (by kernel_rfl))⟩
  f28 := Try.func71.trans (congrArg some (by kernel_rfl))
  f29 := Try.func72.trans (congrArg some (by kernel_rfl))
  f46 := ⟨Try.f80.name, by decide, Try.func80.trans (congrArg some (by kernel_rfl))⟩
  f47 := Try.func81.trans (congrArg some (by kernel_rfl))
  f48 := Try.func82.trans (congrArg some (by kernel_rfl))
  f49 := ⟨Try.f83.name, by decide, Try.func83.trans (congrArg some (by kernel_rfl))⟩
  f50 := ⟨Try.f84.name, by decide, Try.func84.trans (congrArg some (by kernel_rfl))⟩
  f57 := ⟨Try.f85.name, by decide, Try.func85.trans (congrArg some (by kernel_rfl))⟩
  t0 := Try.underlying0
  a0 := Try.isAgg0
  z0 := Try.sizeOf0
  v0 := Try.zeroValue0
  t3 := Try.underlying3
  a3 := Try.isAgg3
  z3 := Try.sizeOf3
  v3 := Try.zeroValue3
  t4 := Try.underlying4
  a4 := Try.isAgg4
  z4 := Try.sizeOf4
  v4 := Try.zeroValue4
  t5 := Try.underlying5
  a5 := Try.isAgg5
  z5 := Try.sizeOf5
  v5 := Try.zeroValue5
  t9 := Try.underlying9
  a9 := Try.isAgg9
  z9 := Try.sizeOf9
  v9 := Try.zeroValue9
  t22 := Try.underlying23
  a22 := Try.isAgg23
  z22 := Try.sizeOf23
  v22 := Try.zeroValue23
  t25 := Try.underlying68
  a25 := Try.isAgg68
  z25 := Try.sizeOf68
  v25 := Try.zeroValue68
  t39 := Try.underlying43
  a39 := Try.isAgg43
  z39 := Try.sizeOf43
  v39 := Try.zeroValue43
  t45 := Try.underlying93
  a45 := Try.isAgg93
  z45 := Try.sizeOf93
  v45 := Try.zeroValue93
  t46 := Try.underlying94
  a46 := Try.isAgg94
  z46 := Try.sizeOf94
  v46 := Try.zeroValue94
  t50 := Try.underlying98
  a50 := Try.isAgg98
  z50 := Try.sizeOf98
  v50 := Try.zeroValue98
  t53 := Try.underlying101
  a53 := Try.isAgg101
  z53 := Try.sizeOf101
  v53 := Try.zeroValue101
  t55 := Try.underlying103
  a55 := Try.isAgg103
  z55 := Try.sizeOf103
  v55 := Try.zeroValue103
  t66 := Try.underlying109
  a66 := Try.isAgg109
  z66 := Try.sizeOf109
  v66 := Try.zeroValue109
  t70 := Try.underlying113
  a70 := Try.isAgg113
  z70 := Try.sizeOf113
  v70 := Try.zeroValue113
  t76 := Try.underlying115
  a76 := Try.isAgg115
  z76 := Try.sizeOf115
  v76 := Try.zeroValue115
  t77 := Try.underlying116
  a77 := Try.isAgg116
  z77 := Try.sizeOf116
  v77 := Try.zeroValue116

open Go.Sort (SWO flatK HoldsK putCells onCells mapBlock get_flatK size_flatK)
def ptCmp (x y : P2) : Int := if x.f0 < y.f0 then -1 else if x.f0 > y.f0 then 1 else if x.f1 < y.f1 then -1 else if x.f1 > y.f1 then 1 else 0
instance ptInh : Inhabited P2 := ⟨⟨0, 0⟩⟩
def ptEnc (x : P2) : List Value := [.int .i64 x.f0, .int .i64 x.f1]
def ptSort (l : List P2) : List P2 := l.mergeSort fun x y => !(ltOf ptCmp) y x
theorem ptSort_length (l : List P2) : (ptSort l).length = l.length := List.length_mergeSort _
theorem ptLt (x y : P2) : ltOf ptCmp x y = decide (x.f0 < y.f0 ∨ (x.f0 = y.f0 ∧ x.f1 < y.f1)) := by
  unfold ltOf ptCmp
  split
  · simp [*]
  · split
    · have : ¬ x.f0 = y.f0 := by omega
      simp [*]
    · have : x.f0 = y.f0 := by omega
      split
      · simp [*]
      · split <;> simp [*]
theorem ptSwo : SWO (ltOf ptCmp) where
  irrefl x := by rw [ptLt]; simp
  trans x y z h1 h2 := by rw [ptLt] at *; simp only [decide_eq_true_eq] at *; omega
  ntrans x y z h1 h2 := by rw [ptLt] at *; simp only [decide_eq_false_iff_not] at *; omega
theorem ptTot (x y : P2) (h1 : ltOf ptCmp x y = false) (h2 : ltOf ptCmp y x = false) : x = y := by
  rw [ptLt] at *
  simp only [decide_eq_false_iff_not] at *
  cases x; cases y
  simp only [S25.mk.injEq] at *
  omega
theorem cmpc_ev (a b : Int) : cmp_Compare_int.f a b = some (if a < b then -1 else if a > b then 1 else 0) := by
  unfold cmp_Compare_int.f cmp_isNaN_int.f
  simp only [bne_self_eq_false, Option.bind_some, Bool.false_eq_true, if_false]
  split
  · rfl
  · split <;> rfl
theorem reach1_ev (x y : P2) : screen_Reach_1.f 3 x.f0 x.f1 y.f0 y.f1 = some (ptCmp x y) := by
  unfold screen_Reach_1.f cmp_Or_int.f
  rw [cmpc_ev, cmpc_ev]
  simp only [Option.bind_some]
  unfold ptCmp
  split <;> split <;> simp_all [cmp_Or_int.l0, rd, wrap64]
def flatP : List P2 → List Value
  | [] => []
  | x :: l => .int .i64 x.f0 :: .int .i64 x.f1 :: flatP l
theorem flatP_len : ∀ l : List P2, (flatP l).length = l.length * 2
  | [] => rfl
  | x :: l => by simp [flatP, flatP_len l]; omega
theorem flatP_get : ∀ (l : List P2) (j : Nat), j < l.length * 2 → (flatP l)[j]? = (ptEnc (l.getD (j / 2) ⟨0, 0⟩))[j % 2]?
  | [], j, h => by simp at h
  | x :: l, 0, _ => rfl
  | x :: l, 1, _ => rfl
  | x :: l, j + 2, h => by
    have h2 := flatP_get l j (by simp at h; omega)
    have e1 : (j + 2) / 2 = j / 2 + 1 := by omega
    have e2 : (j + 2) % 2 = j % 2 := by omega
    rw [e1, e2]
    show (flatP l)[j]? = _
    rw [h2]
    rfl
theorem flatK_flatP (l : List P2) : (flatK ptEnc 2 l.toArray).toList = flatP l := by
  apply List.ext_getElem?
  intro j
  by_cases hj : j < l.length * 2
  · rw [flatP_get l j hj]
    have h0 : j / 2 < l.length := by omega
    have h1 : j % 2 < 2 := by omega
    simp only [flatK, Array.toList_map, Array.toList_range, List.getElem?_map]
    rw [List.getElem?_range (by simpa using hj)]
    simp only [Option.map_some]
    have e : (l.toArray[j / 2]! : P2) = l.getD (j / 2) ⟨0, 0⟩ := by
      simp [List.getD, h0]
    rw [e]
    have h3 : j % 2 < (ptEnc (l.getD (j / 2) ⟨0, 0⟩)).length := by simpa [ptEnc] using h1
    rw [List.getElem!_eq_getElem?_getD, List.getElem?_eq_getElem h3]
    rfl
  · rw [List.getElem?_eq_none (by simp [flatK]; omega), List.getElem?_eq_none (by rw [flatP_len]; omega)]
/-- what a row of points holds, cell by cell -/
theorem reps_flat {w : World} {base : Nat} {okp : Nat → Prop} : ∀ (l : List P2) (inner : List Value), Reps (k25.M w base okp) 2 l inner → inner = flatP l
  | [], inner, h => by have := h.1; simp at this; simp [this, flatP]
  | x :: l, inner, h => by
    have h0 := k25_openM (h.2 0 x rfl)
    simp only [Nat.zero_mul, List.drop_zero] at h0
    have hl := h.1
    have hr := reps_flat l (inner.drop 2) ⟨by simp at hl ⊢; omega, fun j p hj => by
      have := h.2 (j + 1) p hj
      rw [List.drop_drop]
      rw [show 2 + j * 2 = (j + 1) * 2 by omega]
      exact this⟩
    rw [← List.take_append_drop 2 inner, h0, hr]
    rfl
theorem flat_reps (w : World) (base : Nat) (okp : Nat → Prop) (l : List P2) : Reps (k25.M w base okp) 2 l (flatP l) := by
  refine ⟨flatP_len l, ?_⟩
  induction l with
  | nil => intro j p h; simp at h
  | cons x l ih =>
    intro j p h
    cases j with
    | zero =>
      have e : x = p := by simpa using h
      subst e
      exact k25_mkM _ _ _ x
    | succ j =>
      have e : (j + 1) * 2 = j * 2 + 2 := by omega
      have := ih j p (by simpa using h)
      rw [e]
      exact this
theorem pt_holds {W : World} {g : Nat} {cur : Array Value} {e : TypeId} (xs : List P2) (hb : W.heap[g]? = some (.cells cur e (0, 0))) (ht : cur.toList.take (xs.length * 2) = flatP xs) : HoldsK ptEnc 2 W g 0 xs.toArray := by
  intro j hj
  have hj' : j < xs.length * 2 := by simpa using hj
  refine ⟨?_, by simp [World.frozen?, hb]⟩
  have h1 : (cur.toList.take (xs.length * 2))[j]? = (flatP xs)[j]? := by rw [ht]
  rw [List.getElem?_take_of_lt hj', ← flatK_flatP] at h1
  simp only [World.cell?, hb, Nat.zero_add]
  simp only [Option.isSome_none, Bool.false_eq_true, if_false]
  rw [← Array.getElem?_toList, h1, Array.getElem?_toList, Array.getElem?_eq_getElem hj, id, getElem!_pos (flatK ptEnc 2 xs.toArray) j hj]
theorem pt_heap {W : World} {g n : Nat} {os : Array Obj} {cur : Array Value} {e : TypeId} {fr : Nat × Nat} (d : Array P2) (hb : W.heap[g]? = some (.cells cur e fr)) :
    (sortWorldK ptEnc 2 W g 0 n d os).heap[g]? = some (.cells (putCells id 0 (flatK ptEnc 2 d) cur) e fr) := by
  have hg : g < W.heap.size := (Array.getElem?_eq_some_iff.1 hb).1
  unfold sortWorldK Go.Sort.putRowK
  rw [Go.Sort.heap_grow_old _ _ (by simpa using hg)]
  simp [Go.Sort.putRow, mapBlock, Go.Sort.ahead, Array.getElem?_modify, hb, onCells]
theorem pt_grownBy {W : World} {g n : Nat} {os : Array Obj} (d : Array P2) : W.grownBy (sortWorldK ptEnc 2 W g 0 n d os) (some g) := by
  unfold sortWorldK Go.Sort.putRowK
  refine ⟨rfl, rfl, rfl, by simp, fun k hk hne => ?_⟩
  rw [Go.Sort.heap_grow_old _ _ (by simpa using hk)]
  have : g ≠ k := fun e => hne (by rw [e])
  simp [Go.Sort.putRow, mapBlock, Go.Sort.ahead, Array.getElem?_modify, this]
theorem pt_take (cur F : Array Value) (h : F.size ≤ cur.size) : (putCells id 0 F cur).toList.take F.size = F.toList := by
  apply List.ext_getElem?
  intro j
  by_cases hj : j < F.size
  · rw [List.getElem?_take_of_lt hj, Array.getElem?_toList]
    simp [putCells, hj, show j < cur.size by omega]
  · rw [List.getElem?_take_eq_none (by omega), List.getElem?_eq_none (by simp; omega)]
theorem reachLays (blk off size : Nat) (w : World) : CmpLays Try.prog 34 #[] ptEnc 2 ptCmp blk off size w :=
  fun _ _ _ _ x y => (reachCmp.calls 3 x.f0 x.f1 y.f0 y.f1 (ptCmp x y) _ (reach1_ev x y)).mono fun _ _ h => ⟨h.1, h.2⟩
theorem ptSort.calls (ok : Nat → Prop) (v : Value) (xs : List P2) (w0 w : World) (HB : Below w0.heap.size w0 w) (h : Kd.R k25 25 w w0.heap.size ok v xs) (hl : xs.length < 4611686018427387904) :
    Calls Try.prog 33 #[v, .func (.func 34) #[] #[]] w fun e w' => e = .returned (.tuple #[]) ∧ Kd.R k25 25 w' w0.heap.size ok v (ptSort xs) ∧ Below w0.heap.size w0 w' := by
  have eg : ∀ args w, (callFunc 34 args).run Try.prog w = .ok (.enter 34 args) w := enters_of Try.func34 (by kernel_rfl) rfl
  obtain ⟨h0, inner, ho, hr⟩ := h
  have hi := reps_flat xs inner hr
  subst hi
  rcases ho.2 with ⟨rfl, hn⟩ | ⟨g, cap, cur, rfl, hg, hh, h1, h2, h3, h4⟩
  · have hx : xs = [] := List.length_eq_zero_iff.1 hn
    subst hx
    refine (AnyF.slices_SortFunc_none { ptLay with } none 0 _ w).mono ?_
    rintro e w' ⟨rfl, rfl⟩
    exact ⟨rfl, by rw [show ptSort [] = [] by simp [ptSort]]; exact Kd.R_nil _ _ _ _ _, HB⟩
  · have hgs : g < w.heap.size := (Array.getElem?_eq_some_iff.1 hh).1
    have hcon := AnyQ.slices_SortFunc_total ptLay 2 Try.isAgg25 Try.sizeOf25 ptEnc (fun _ => rfl) (fun x v hv => by simp [ptEnc] at hv; rcases hv with rfl | rfl <;> rfl) ptCmp ptSwo 34 #[] g 0 cap xs.toArray w eg (reachLays g 0 _ w) (pt_holds xs hh h4) hgs (by simpa using hl) ptTot
    rw [List.size_toArray] at hcon
    change Calls Try.prog 33 _ _ _ at hcon
    refine hcon.mono ?_
    rintro e w' ⟨rfl, n, os, rfl⟩
    have hgr := pt_grownBy (W := w) (g := g) (n := n) (os := os) (ptSort xs).toArray
    have hsz : (flatK ptEnc 2 (ptSort xs).toArray).size = xs.length * 2 := by simp [ptSort_length]
    refine ⟨rfl, ⟨h0, flatP (ptSort xs), ⟨by rw [flatP_len, ptSort_length]; rfl, .inr ⟨g, cap, _, by rw [ptSort_length], hg, pt_heap (ptSort xs).toArray hh, by rw [ptSort_length]; exact h1, h2, by simp [putCells, h3], ?_⟩⟩, flat_reps _ _ _ _⟩, HB.grown hgr (below_size HB) (fun k hk => by cases hk; exact hg)⟩
    rw [ptSort_length, show k25.sz = 2 from rfl, ← hsz, pt_take cur _ (by rw [hsz]; have : cur.size = cap * 2 := h3; omega), flatK_flatP]

def screen_Reach.f (k : Nat) (l0 : List S48) (l1 : List P2) (a2_0 a2_1 a2_2 a2_3 a3_0 a3_1 : Int) : Option (List P2 × Int) :=
  (screen_ends.f k l0 l1 a2_0 a2_1 a2_2 a2_3 [⟨a3_0, a3_1⟩]).bind fun e => if e = 0 then
    (screen_spread.f k l0 l1 a2_0 a2_1 a2_2 a2_3 a3_0 a3_1).bind fun s => (if s.1.length < 4611686018427387904 then some (ptSort s.1, 0) else none)
  else some ([], e)
set_option maxHeartbeats 8000000 in
theorem screen_Reach.calls (k : Nat) (A0 : Option Addr) (c0 : Nat) (l0 : List S48) (A1 : Option Addr) (c1 : Nat) (l1 : List P2) (a2_0 a2_1 a2_2 a2_3 a3_0 a3_1 : Int) (r1 : List P2) (r2 : Int) (w : World)
    (hr0 : Kd.C k48 w A0 l0.length l0) (hc0 : l0.length ≤ c0) (hr1 : Kd.C k25 w A1 l1.length l1) (hc1 : l1.length ≤ c1) (h : screen_Reach.f k l0 l1 a2_0 a2_1 a2_2 a2_3 a3_0 a3_1 = some (r1, r2)) :
    Calls Try.prog 12 #[.slice A0 l0.length c0, .slice A1 l1.length c1, .agg #[.int .i64 a2_0, .int .i64 a2_1, .int .i64 a2_2, .int .i64 a2_3], .agg #[.int .i64 a3_0, .int .i64 a3_1]] w fun e w' => ∃ v0_ : Value, e = .returned (.tuple #[v0_, .int .i64 r2]) ∧ Kd.R k25 25 w' w.heap.size (fun _ => True) v0_ r1 ∧ Below w.heap.size w w' := by
  have hu := Try.underlying25
  have HR0 := Aside0.mk hr0
  have HR1 := Aside0.mk hr1
  have HC0 := Aside0.mk hc0
  have HC1 := Aside0.mk hc1
  obtain ⟨en, AE, H⟩ := Option.bind_eq_some_iff.mp h
  have HH := Aside0.mk H
  have AE := Aside0.mk AE
  clear hr0 hr1 hc0 hc1 h H
  go_enter Try.func12, Try.ntmps12
  go_upto_region 1 with fail
  obtain ⟨B7, B8, BB⟩ := two_boxes w (.cells #[.int .i64 a2_0, .int .i64 a2_1, .int .i64 a2_2, .int .i64 a2_3] 27) (.cells #[.int .i64 a3_0, .int .i64 a3_1] 25)
  generalize (w.alloc (.cells #[.int .i64 a2_0, .int .i64 a2_1, .int .i64 a2_2, .int .i64 a2_3] 27)).alloc (.cells #[.int .i64 a3_0, .int .i64 a3_1] 25) = w2 at B7 B8 BB ⊢
  have GG : Aside0 (w.heap.size ≤ w.heap.size + 1) := ⟨by omega⟩
  generalize w.heap.size + 1 = g8 at B8 GG ⊢
  have H7 := Aside0.mk B7
  have H8 := Aside0.mk B8
  have HB := Aside0.mk BB
  have b0 : w2.cell? ⟨w.heap.size, 0, none⟩ = some (.int .i64 a2_0) := (blk_cell B7 0).trans rfl
  have b1 : w2.cell? ⟨w.heap.size, 1, none⟩ = some (.int .i64 a2_1) := (blk_cell B7 1).trans rfl
  have b2 : w2.cell? ⟨w.heap.size, 2, none⟩ = some (.int .i64 a2_2) := (blk_cell B7 2).trans rfl
  have b3 : w2.cell? ⟨w.heap.size, 3, none⟩ = some (.int .i64 a2_3) := (blk_cell B7 3).trans rfl
  have f0 : w2.cell? ⟨g8, 0, none⟩ = some (.int .i64 a3_0) := (blk_cell B8 0).trans rfl
  have f1 : w2.cell? ⟨g8, 1, none⟩ = some (.int .i64 a3_1) := (blk_cell B8 1).trans rfl
  clear B7 B8 BB
  go_wp2_with (first | ((with_reducible refine gate_dst (N := 17) rfl ?_); refine Kd.R_lit k25 _ 25 ?hg (N := 17) ?hd (xs := ([(⟨a3_0, a3_1⟩ : P2)] : List P2)) (inner := [.int .i64 a3_0, .int .i64 a3_1]) (ok := fun _ => True) (okp := fun _ => True) ?hr ?hp (fun _ hk => hk) trivial (Below.refl _ _) (Nat.le_refl _) (by simp) ?_; (case hd => rfl); (case hg => rfl); (case hr => first | (go_simp; done) | (go_simp; rfl)); (case hp => exact (Reps.c2 (show Kd.M k25 _ _ _ (⟨a3_0, a3_1⟩ : P2) [.int .i64 a3_0, .int .i64 a3_1] from (k25_mkM _ _ _ (⟨a3_0, a3_1⟩ : P2))) (Reps.none _ _))); intro v25 w3 ho hb hg_ hnew_; clear hg_ hnew_; obtain ⟨A25, c25, e25⟩ := Kd.R_slice ho; subst e25; have RR := Aside0.mk (Kd.R_reads' ho); have HB3 := Aside0.mk hb; clear ho hb))
  refine (screen_ends.calls k A0 c0 l0 A1 c1 l1 a2_0 a2_1 a2_2 a2_3 _ _ [⟨a3_0, a3_1⟩] en w3 (Kd.C_below HR0.out (below_step HB.out HB3.out)) HC0.out (Kd.C_below HR1.out (below_step HB.out HB3.out)) HC1.out RR.out.2.2 RR.out.2.1 AE.out).mono ?_
  rintro e w4 ⟨rfl, hb⟩
  have hb := below_step HB3.out hb
  have N7 := Aside0.mk (blk_below (g := w.heap.size) (o := .cells #[.int .i64 a2_0, .int .i64 a2_1, .int .i64 a2_2, .int .i64 a2_3] 27 (0, 0)) H7.out hb)
  have N8 := Aside0.mk (blk_below (g := g8) (o := .cells #[.int .i64 a3_0, .int .i64 a3_1] 25 (0, 0)) H8.out hb)
  have HB4 := Aside0.mk (below_step HB.out hb)
  clear hb b0 b1 b2 b3 f0 f1 H7 H8 HB HB3 RR AE
  by_cases ce : en = 0
  · have H2 := HH.out
    rw [if_pos ce] at H2
    subst ce
    obtain ⟨s, AS, H3⟩ := Option.bind_eq_some_iff.mp H2
    obtain ⟨hlen, H4⟩ := law_some H3
    simp only [Option.some.injEq, Prod.mk.injEq] at H4
    obtain ⟨rfl, rfl⟩ := H4
    have AS := Aside0.mk AS
    have HL := Aside0.mk hlen
    have b0 : w4.cell? ⟨w.heap.size, 0, none⟩ = some (.int .i64 a2_0) := (blk_cell N7.out 0).trans rfl
    have b1 : w4.cell? ⟨w.heap.size, 1, none⟩ = some (.int .i64 a2_1) := (blk_cell N7.out 1).trans rfl
    have b2 : w4.cell? ⟨w.heap.size, 2, none⟩ = some (.int .i64 a2_2) := (blk_cell N7.out 2).trans rfl
    have b3 : w4.cell? ⟨w.heap.size, 3, none⟩ = some (.int .i64 a2_3) := (blk_cell N7.out 3).trans rfl
    have f0 : w4.cell? ⟨g8, 0, none⟩ = some (.int .i64 a3_0) := (blk_cell N8.out 0).trans rfl
    have f1 : w4.cell? ⟨g8, 1, none⟩ = some (.int .i64 a3_1) := (blk_cell N8.out 1).trans rfl
    clear H2 H3 HH hlen
    go_wp2_with fail
    refine (screen_spread.calls k A0 c0 l0 A1 c1 l1 a2_0 a2_1 a2_2 a2_3 a3_0 a3_1 s w4 (Kd.C_below HR0.out HB4.out) HC0.out (Kd.C_below HR1.out HB4.out) HC1.out AS.out).mono ?_
    rintro e w5 ⟨vf, gm, rfl, hrow, hmap, hgm, hb⟩
    have HB5 := Aside0.mk (below_step HB4.out hb)
    have HW5 := Aside0.mk (Kd.R_lower (base' := w.heap.size) hrow (below_size HB4.out))
    obtain ⟨Af, cf, ef⟩ := Kd.R_slice hrow
    subst ef
    clear hrow hmap hgm hb b0 b1 b2 b3 f0 f1 N7 N8 HB4 AS
    go_wp2_with fail
    refine (ptSort.calls _ _ s.1 w w5 HB5.out HW5.out HL.out).mono ?_
    rintro e w6 ⟨rfl, hrow, hb⟩
    have RW6 := Aside0.mk hrow
    have HB6 := Aside0.mk hb
    clear hrow hb
    go_wp2
    go_ret2
    exact ⟨_, rfl, RW6.out, HB6.out⟩
  · have H2 := HH.out
    rw [if_neg ce] at H2
    simp only [Option.some.injEq, Prod.mk.injEq] at H2
    obtain ⟨rfl, rfl⟩ := H2
    have c0' : (en == 0) = false := beq_eq_false_iff_ne.2 ce
    have c1' : (en != 0) = true := bne_iff_ne.2 ce
    clear HH ce
    go_wp2
    go_ret2
    exact ⟨_, rfl, Kd.R_nil _ _ _ _ _, HB4.out⟩

end Go.Proofs.Ytieffjkplaajdaa.SW

