/- Of the text SWx16, what the row of ScreenWays reaches. -/
import Derived.Test.YtieffjkplaajdaaZScreenWaysSWx0
import Derived.Test.YtieffjkplaajdaaZScreenWaysSWx12
import Derived.Test.YtieffjkplaajdaaZScreenWaysSWx13
import Derived.Test.YtieffjkplaajdaaZScreenWaysSWx14
import Derived.Test.YtieffjkplaajdaaZScreenWaysSWx15
import Derived.Maps.OwnSet
import Derived.DeepKeys4
import Derived.MapViews
import Derived.WalkMore
import Derived.Maps.RangeWalk
namespace Go.Proofs.Ytieffjkplaajdaa.SW
open Go.RowKit Go.Proofs.YtieffjkplaajdaaW.PrintWords Go.Proofs.YtieffjkplaajdaaW.PrintLast Go.Proofs.YtieffjkplaajdaaW.PrintMore
open Go.Proofs.YtieffjkplaajdaaW.PrintWords renaming blk_drewN → bN, blk_drew → bD, blk_alloc → bA, below_alloc → wA, pw_below_drewN → wN, below_drew1 → wD, below_set → wS
open List renaming setIfInBounds_toArray → sA, set_cons_zero → s0, set_cons_succ → s1
open Act renaming put → ap
open Aside0 renaming mk → am
attribute [local go_sem] max2_int min2_int max_two min_two max_three min_three max_four min_four   -- for this text's walks alone
set_option linter.unusedVariables false
set_option linter.unusedSimpArgs false

open Go.Maps
set_option maxRecDepth 100000
theorem pt_laid : laidOutB Try.prog = true := by kernel_rfl
theorem pt_row : (25 : TypeId) < Try.prog.types.size := of_decide_eq_true (by kernel_rfl)
theorem pt_deep : Try.prog.keyTypeAt (Try.prog.types.size + 1) 25 = true := by kernel_rfl
theorem pt_wide : (match Try.prog.underlying 25 with | some (.array _ _) | some (.struct _) => true | _ => false) = true := by rw [Try.underlying25]
theorem pt_cells : Try.prog.cellsOf 25 = 2 := by kernel_rfl
theorem pt_law : Keyed Try.prog 25 := Keyed.of_law (deep_law_laid pt_laid (m := 2) (by omega) pt_row (by kernel_rfl) pt_wide)
def ptV (p : S25) : Value := .agg #[.int .i64 p.f0, .int .i64 p.f1]
def ptOk (p : S25) : Prop := (Lit.int .i64 p.f0).wf = true ∧ (Lit.int .i64 p.f1).wf = true
instance (p : S25) : Decidable (ptOk p) := inferInstanceAs (Decidable (_ ∧ _))
theorem pt_formed (p : S25) : (ptV p).formed Try.prog 25 = true := by simp [ptV, Value.formed, Try.underlying25, pt_cells]
theorem pt_lits0 (p : S25) (h0 : (Lit.int .i64 p.f0).wf = true) (h1 : (Lit.int .i64 p.f1).wf = true) (m : Nat) : ∃ ls, Try.prog.keyLits (m + 1 + 1) 25 (ptV p).cells.toList = some ls := by
  simp [Program.keyLits, Try.underlying25, Try.underlying3, ptV, Value.cells, pt_cells, h0, h1, show Try.prog.cellsOf 3 = 1 by kernel_rfl]
theorem pos_of_lt {a b : Nat} (h : a < b) : ∃ m, b = m + 1 := ⟨b - 1, by omega⟩
theorem pt_lits (p : S25) (h0 : (Lit.int .i64 p.f0).wf = true) (h1 : (Lit.int .i64 p.f1).wf = true) : ∃ ls, Try.prog.keyLits (Try.prog.types.size + 1) 25 (ptV p).cells.toList = some ls := by
  obtain ⟨m, hm⟩ := pos_of_lt pt_row
  rw [hm]
  exact pt_lits0 p h0 h1 m
theorem pt_key (p : S25) (h : ptOk p) : ∃ l, keyOf Try.prog 25 (ptV p) = some l := by
  obtain ⟨h0, h1⟩ := h
  unfold keyOf
  rw [Try.underlying25]
  have hk : Try.prog.keyType 25 = true := pt_deep
  simp only [hk, pt_formed, Bool.and_self, if_true]
  obtain ⟨ls, e⟩ := pt_lits p h0 h1
  exact ⟨_, by rw [e]; rfl⟩
noncomputable def ptL (p : S25) : Lit := (keyOf Try.prog 25 (ptV p)).getD (.bool false)
theorem ptL_of (p : S25) (h : ptOk p) : keyOf Try.prog 25 (ptV p) = some (ptL p) := by
  obtain ⟨l, e⟩ := pt_key p h
  rw [ptL, e]; rfl
theorem ptL_inj {p q : S25} (hp : ptOk p) (hq : ptOk q) (h : ptL p = ptL q) : p = q := by
  have e := pt_law.inj (ptL_of p hp) (by rw [h]; exact ptL_of q hq)
  unfold ptV at e
  injection e with e
  have e1 := congrArg (fun a : Array Value => a.toList) e
  simp at e1
  cases p; cases q; simp_all
/-- how a value reads -/
def ptR (v : Value) : Option (DataW Unit × List MemPlace) :=
  match v with
  | .agg cs => (match cs.toList with
    | [.int .i64 x, .int .i64 y] => some (.agg [.lit (.int .i64 x), .lit (.int .i64 y)], [])
    | _ => none)
  | _ => none
def ptD (p : S25) : DataW Unit := .agg [.lit (.int .i64 p.f0), .lit (.int .i64 p.f1)]
theorem ptR_mk (p : S25) : ptR (ptV p) = some (ptD p, []) := rfl
theorem ptR_inv {v : Value} {p : S25} {ps : List MemPlace} (h : ptR v = some (ptD p, ps)) : v = ptV p := by
  unfold ptR at h
  split at h
  · rename_i cs
    split at h
    · rename_i x y e
      simp only [ptD, Option.some.injEq, Prod.mk.injEq, DataW.agg.injEq, List.cons.injEq, DataW.lit.injEq, Lit.int.injEq, true_and, and_true] at h
      obtain ⟨⟨rfl, rfl⟩, _⟩ := h
      have : cs = #[.int .i64 p.f0, .int .i64 p.f1] := by cases cs; simp_all
      rw [this]; rfl
    · exact absurd h (by simp)
  · exact absurd h (by simp)
/-- what is laid into the map, the latest first -/
abbrev Back := List (S25 × S25)
noncomputable def bD : Back → DataW Unit
  | [] => .map []
  | (q, p) :: t => (bD t).put (ptL q) (ptD p)
def bGet (l : Back) (q : S25) : Option S25 := (l.find? fun e => decide (e.1.f0 = q.f0 ∧ e.1.f1 = q.f1)).map (·.2)
theorem pt_ext {p q : S25} : (p.f0 = q.f0 ∧ p.f1 = q.f1) ↔ p = q := by
  cases p; cases q; simp
theorem bD_map : ∀ l : Back, IsMap (bD l)
  | [] => isMap_empty
  | (q, p) :: t => (bD_map t).put _ _
theorem bD_has (q : S25) (hq : ptOk q) : ∀ l : Back, (∀ e ∈ l, ptOk e.1) → Maps.has (bD l) (ptL q) = (bGet l q).isSome
  | [], _ => rfl
  | (a, p) :: t, h => by
    have ha := h _ (List.mem_cons_self ..)
    have ih := bD_has q hq t (fun e he => h e (List.mem_cons_of_mem _ he))
    unfold bD bGet
    by_cases e : a = q
    · subst e
      rw [has_put_same (bD_map t) (pt_law.key (ptL_of a ha)), List.find?_cons_of_pos (by simp)]; rfl
    · rw [has_put_other (fun z => e (ptL_inj ha hq z.symm)), ih, List.find?_cons_of_neg (by simp only [decide_eq_true_eq]; exact fun z => e (pt_ext.1 z))]; rfl
theorem bD_at (q : S25) (hq : ptOk q) (z : S25) : ∀ l : Back, (∀ e ∈ l, ptOk e.1) → (bD l).atKey (ptL q) (ptD z) = ptD ((bGet l q).getD z)
  | [], _ => rfl
  | (a, p) :: t, h => by
    have ha := h _ (List.mem_cons_self ..)
    have ih := bD_at q hq z t (fun e he => h e (List.mem_cons_of_mem _ he))
    unfold bD bGet
    by_cases e : a = q
    · subst e
      rw [atKey_put_same (bD_map t) (pt_law.key (ptL_of a ha)), List.find?_cons_of_pos (by simp)]; rfl
    · rw [atKey_put_other (fun z => e (ptL_inj ha hq z.symm)), ih, List.find?_cons_of_neg (by simp only [decide_eq_true_eq]; exact fun z => e (pt_ext.1 z))]; rfl
/-- block b is the map of what was laid into it -/
def MapIs (w : World) (b : Nat) (l : Back) : Prop := (∀ e ∈ l, ptOk e.1) ∧ w.ownsMap (H := Unit) Try.prog 25 ptR b l.length (bD l)
theorem MapIs.below {w w1 : World} {b : Nat} {l : Back} (h : MapIs w b l) (hb : Below w.heap.size w w1) : MapIs w1 b l := by
  obtain ⟨h0, es, clock, hm, r⟩ := h
  exact ⟨h0, es, clock, (hb.block b (Array.getElem?_eq_some_iff.1 hm).1).trans hm, r⟩
theorem MapIs.far {w : World} {b : Nat} {l : Back} (h : MapIs w b l) {a : Addr} (ha : b ≠ a.block) (u : Value) : MapIs (w.setCell a u) b l := ⟨h.1, h.2.setCell ha u⟩
theorem MapIs.grown {w w1 : World} {b : Nat} {l : Back} (h : MapIs w b l) {row : Option Nat} (hg : w.grownBy w1 row) (hne : some b ≠ row) : MapIs w1 b l := ⟨h.1, h.2.kept hg hne⟩
theorem MapIs.made (w : World) : MapIs (w.alloc (.map #[] 0)) w.heap.size [] := ⟨fun _ h => absurd h List.not_mem_nil, World.ownsMap_made _ _ _ _⟩
theorem MapIs.lt {w : World} {b : Nat} {l : Back} (h : MapIs w b l) : b < w.heap.size := h.2.lt
section
variable {w : World} {ops : Array Oper} {rest : List Oper} {o : Oper} {a : Act} {Q : Exit → Act → World → Prop}
theorem pt_zero (w : World) : (zeroValue 25).run Try.prog w = .ok (ptV ⟨0, 0⟩) w := by kernel_rfl
theorem MapIs.look_ok {b : Nat} {l : Back} (hg : o.guard = none) (m x : Operand) (hop : o.op = Op.lookup 56 m x true) (hm : a.eval m = .map (some b)) (h : MapIs w b l) (q : S25) (hq : ptOk q) (hx : a.eval x = ptV q)
    (hK : ∀ (kp : S25) (kb : Bool), kp = (bGet l q).getD ⟨0, 0⟩ → kb = (bGet l q).isSome → wpList Try.prog ops Q rest (a.put o.dst (.tuple #[.agg #[.int .i64 kp.f0, .int .i64 kp.f1], .bool kb])) w) : wpList Try.prog ops Q (o :: rest) a w := by
  refine wpList_lookup_own_ok w hg m x _ hop 25 25 pt_law Try.underlying56 ptR (pt_zero w) (ptD ⟨0, 0⟩) [] (ptR_mk _) b _ (bD l) hm h.2 (ptV q) (ptL q) hx (ptL_of q hq) ?_
  intro v ps hv
  rw [bD_at q hq _ l h.1] at hv
  rw [ptR_inv hv, bD_has q hq l h.1]
  exact hK _ _ rfl rfl
theorem MapIs.look {b : Nat} {l : Back} (hg : o.guard = none) (m x : Operand) (hop : o.op = Op.lookup 56 m x false) (hm : a.eval m = .map (some b)) (h : MapIs w b l) (q : S25) (hq : ptOk q) (hx : a.eval x = ptV q)
    (hK : ∀ kp : S25, kp = (bGet l q).getD ⟨0, 0⟩ → wpList Try.prog ops Q rest (a.put o.dst (.agg #[.int .i64 kp.f0, .int .i64 kp.f1])) w) : wpList Try.prog ops Q (o :: rest) a w := by
  refine wpList_plain hg fun K' hK' => ?_
  obtain ⟨v, ps, hrun, hv⟩ := h.2.lookup pt_law Try.underlying56 (pt_zero w) (ptR_mk ⟨0, 0⟩) (ptL_of q hq)
  rw [bD_at q hq _ l h.1] at hv
  rw [ptR_inv hv] at hrun
  unfold Oper.wp
  simp [execOp, hop, hm, hx, hrun, Result.andThen]
  exact hK' _ _ (hK _ rfl)
theorem MapIs.store {b : Nat} {l : Back} (hg : o.guard = none) (m x v : Operand) (hop : o.op = Op.mapUpdate 56 m x v) (hm : a.eval m = .map (some b)) (h : MapIs w b l) (hl : l.length < maxLen) (q p : S25) (hq : ptOk q) (hx : a.eval x = ptV q) (hv : a.eval v = ptV p)
    (hK : ∀ w1, MapIs w1 b ((q, p) :: l) → w.grownBy w1 (some b) → wpList Try.prog ops Q rest (a.put o.dst undef) w1) : wpList Try.prog ops Q (o :: rest) a w := by
  refine wpList_mapUpdate_own w hg m x v _ hop 25 25 pt_law Try.underlying56 ptR b _ (bD l) hm h.2 hl (ptV q) (ptV p) (ptL q) hx hv (ptL_of q hq) (ptD p) [] (ptR_mk p) ?_
  intro w1 h1 h2
  exact hK w1 ⟨fun e he => by
    rcases List.mem_cons.1 he with rfl | he
    · exact hq
    · exact h.1 e he, h1⟩ h2
end
theorem heap_newk (w : World) (o : Obj) : (w.alloc o).heap[w.heap.size]? = some o := by
  show (w.heap.push o)[w.heap.size]? = some o
  exact Array.getElem?_push_size

abbrev P2 := S25
/-- whether one of the watchers sees a point -/
def eyesF (l : List S48) (q : P2) : List P2 → Option Bool
  | [] => some false
  | e :: t => (screen_sees.f l e.f0 e.f1 q.f0 q.f1).bind fun b => if b = true then some true else eyesF l q t
/-- a point that may be found -/
def tryF (l : List S48) (eyes : List P2) (b0 b1 b2 b3 : Int) (p q : P2) (s : List P2 × Back) : Option (List P2 × Back) :=
  if ptOk q ∧ s.1.length < 1000000 ∧ s.2.length < 1000000 then
    (if (bGet s.2 q).isSome = true then some s else
      (screen_inside.f b0 b1 b2 b3 q.f0 q.f1).bind fun i => if i = true then
        ((screen_sees.f l p.f0 p.f1 q.f0 q.f1).bind fun v => if v = true then
          ((eyesF l q eyes).bind fun e => if e = true then some s else some (s.1 ++ [q], (q, p) :: s.2))
        else some s)
      else some s)
  else none
def dirs : List P2 := [⟨1, 0⟩, ⟨-1, 0⟩, ⟨0, 1⟩, ⟨0, -1⟩]
def dirsF (l : List S48) (eyes : List P2) (b0 b1 b2 b3 : Int) (p : P2) : List P2 → List P2 × Back → Option (List P2 × Back)
  | [], s => some s
  | d :: t, s => (tryF l eyes b0 b1 b2 b3 p ⟨wrap64 (p.f0 + d.f0), wrap64 (p.f1 + d.f1)⟩ s).bind fun s => dirsF l eyes b0 b1 b2 b3 p t s
def spreadF (l : List S48) (eyes : List P2) (b0 b1 b2 b3 : Int) : Nat → Nat → List P2 × Back → Option (List P2 × Back)
  | 0, _, _ => none
  | k + 1, i, s => if h : i < s.1.length then (dirsF l eyes b0 b1 b2 b3 s.1[i] dirs s).bind fun s => spreadF l eyes b0 b1 b2 b3 k (i + 1) s else some s
def screen_spread.f (k : Nat) (l0 : List S48) (l1 : List P2) (a2_0 a2_1 a2_2 a2_3 a3_0 a3_1 : Int) : Option (List P2 × Back) :=
  (screen_hidden.f l0 l1 a3_0 a3_1).bind fun h => if h = true then (if ptOk ⟨a3_0, a3_1⟩ then spreadF l0 l1 a2_0 a2_1 a2_2 a2_3 k 0 ([⟨a3_0, a3_1⟩], [(⟨a3_0, a3_1⟩, ⟨a3_0, a3_1⟩)]) else none) else some ([], [])
theorem law_some {α : Type} {c : Prop} [Decidable c] {x : Option α} {r : α} (h : (if c then x else none) = some r) : c ∧ x = some r := by
  by_cases hc : c
  · exact ⟨hc, by rw [if_pos hc] at h; exact h⟩
  · rw [if_neg hc] at h; exact absurd h (by simp)
theorem dirs_at {W : World} {gd : Nat} (h : W.heap[gd]? = some (.cells #[.int .i64 1, .int .i64 0, .int .i64 (-1), .int .i64 0, .int .i64 0, .int .i64 1, .int .i64 0, .int .i64 (-1)] 25 (0, 0))) {j : Nat} (hj : j < 4) : ∃ d : P2, dirs.drop j = d :: dirs.drop (j + 1) ∧ W.cell? ⟨gd, j * 2, none⟩ = some (.int .i64 d.f0) ∧ W.cell? ⟨gd, j * 2 + 1, none⟩ = some (.int .i64 d.f1) := by
  match j, hj with
  | 0, _ => exact ⟨⟨1, 0⟩, rfl, (blk_cell h 0).trans rfl, (blk_cell h 1).trans rfl⟩
  | 1, _ => exact ⟨⟨-1, 0⟩, rfl, (blk_cell h 2).trans rfl, (blk_cell h 3).trans rfl⟩
  | 2, _ => exact ⟨⟨0, 1⟩, rfl, (blk_cell h 4).trans rfl, (blk_cell h 5).trans rfl⟩
  | 3, _ => exact ⟨⟨0, -1⟩, rfl, (blk_cell h 6).trans rfl, (blk_cell h 7).trans rfl⟩
theorem spr_own {v v1 : Value} {n gp gd : Nat} (h : ∀ k, v.ownBlock = some k → k ≠ gp ∧ k ≠ gd) (hat : v1.ownBlock = v.ownBlock ∨ ∃ b, v1.ownBlock = some b ∧ n ≤ b) (hp : gp < n) (hd : gd < n) : ∀ k, v1.ownBlock = some k → k ≠ gp ∧ k ≠ gd := by
  intro k hk
  rcases hat with hat | ⟨b, hat, hle⟩
  · exact h k (hat ▸ hk)
  · have e1 : k = b := by rw [hk] at hat; injection hat
    omega
/-- what stands between two rounds -/
structure SprAt (w : World) (gm : Nat) (a2_0 a2_1 a2_2 a2_3 : Int) (W : World) (v : Value) (s : List P2 × Back) : Prop where
  bel : Below w.heap.size w W
  gmb : w.heap.size < gm
  box : W.heap[w.heap.size]? = some (.cells #[.int .i64 a2_0, .int .i64 a2_1, .int .i64 a2_2, .int .i64 a2_3] 27 (0, 0))
  map : MapIs W gm s.2
  row : Kd.R k25 25 W w.heap.size (fun _ => True) v s.1
theorem SprAt.below {w W W1 : World} {gm : Nat} {a b c d : Int} {v : Value} {s : List P2 × Back} (h : SprAt w gm a b c d W v s) (hb : Below W.heap.size W W1) : SprAt w gm a b c d W1 v s :=
  ⟨below_step h.bel hb, h.gmb, blk_below (g := w.heap.size) (o := .cells #[.int .i64 a, .int .i64 b, .int .i64 c, .int .i64 d] 27 (0, 0)) h.box hb, h.map.below hb, Kd.R_below h.row hb⟩
theorem SprAt.put {w W W1 : World} {gm : Nat} {a b c d : Int} {v : Value} {s : List P2 × Back} {l : Back} (h : SprAt w gm a b c d W v s) (hg : W.grownBy W1 (some gm)) (hm : MapIs W1 gm l) : SprAt w gm a b c d W1 v (s.1, l) := by
  have hs := below_size h.bel
  refine ⟨h.bel.grown hg hs (fun k hk => by injection hk with hk; have := h.gmb; omega), h.gmb, ?_, hm, ?_⟩
  · have hl : w.heap.size < W.heap.size := (Array.getElem?_eq_some_iff.1 h.box).1
    rw [hg.block _ hl (fun e => by injection e with e; have := h.gmb; omega)]; exact h.box
  · obtain ⟨_, es, clock, hmm, _⟩ := h.map
    exact Kd.R_mono (Kd.R_step (Kd.R_bound h.row) (fun k hk hlt => hg.block k hlt (fun e => by
      injection e with e
      obtain ⟨_, _, _, _, _, cells, hc⟩ := hk
      rw [e, hmm] at hc
      exact absurd hc (by simp)))) (fun _ hk => hk.1)
theorem SprAt.more {w W W1 : World} {gm : Nat} {a b c d : Int} {v v1 : Value} {s : List P2 × Back} {l : List P2} (h : SprAt w gm a b c d W v s) (hg : W.grownBy W1 v.ownBlock) (hr : Kd.R k25 25 W1 w.heap.size (fun _ => True) v1 l) : SprAt w gm a b c d W1 v1 (l, s.2) := by
  have hs := below_size h.bel
  have ne : some gm ≠ v.ownBlock := fun e => by
    obtain ⟨_, es, clock, hmm, _⟩ := h.map
    obtain ⟨cells, hc⟩ := Kd.R_typed h.row gm e.symm
    rw [hmm] at hc
    exact absurd hc (by simp)
  refine ⟨h.bel.grown hg hs (fun k hk => Kd.R_base h.row k hk), h.gmb, ?_, h.map.grown hg ne, hr⟩
  have hl : w.heap.size < W.heap.size := (Array.getElem?_eq_some_iff.1 h.box).1
  rw [hg.block _ hl (fun e => by
    obtain ⟨cells, hc⟩ := Kd.R_typed h.row w.heap.size e.symm
    rw [h.box] at hc
    injection hc with hc
    injection hc with _ hc
    exact absurd hc (by decide))]
  exact h.box
open Bool renaming true → T, false → F
set_option maxHeartbeats 8000000 in
theorem screen_spread.calls (k : Nat) (A0 : Option Addr) (c0 : Nat) (l0 : List S48) (A1 : Option Addr) (c1 : Nat) (l1 : List P2) (a2_0 a2_1 a2_2 a2_3 a3_0 a3_1 : Int) (r : List P2 × Back) (w : World)
 (hr0 : Kd.C k48 w A0 l0.length l0) (hc0 : l0.length ≤ c0) (hr1 : Kd.C k25 w A1 l1.length l1) (hc1 : l1.length ≤ c1) (h : screen_spread.f k l0 l1 a2_0 a2_1 a2_2 a2_3 a3_0 a3_1 = some r) :
 Calls Try.prog 24 #[.slice A0 l0.length c0, .slice A1 l1.length c1, .agg #[.int .i64 a2_0, .int .i64 a2_1, .int .i64 a2_2, .int .i64 a2_3], .agg #[.int .i64 a3_0, .int .i64 a3_1]] w fun e w' => ∃ (v : Value) (g : Nat), e = .returned (.tuple #[v, .map (some g)]) ∧ Kd.R k25 25 w' w.heap.size (fun _ => True) v r.1 ∧ MapIs w' g r.2 ∧ w.heap.size ≤ g ∧ Below w.heap.size w w' := by
 have hu := Try.underlying25
 have hmm := @run_makeMap Try.prog
 have HR0 := am hr0
 have HR1 := am hr1
 have HC0 := am hc0
 have HC1 := am hc1
 obtain ⟨hd, AH, H⟩ := Option.bind_eq_some_iff.mp h
 have HH := am H
 have AHH := am AH
 have b0 := am (below_alloc (Below.refl w.heap.size w) (.cells #[.int .i64 a2_0, .int .i64 a2_1, .int .i64 a2_2, .int .i64 a2_3] 27))
 clear hr0 hr1 hc0 hc1 h H AH
 go_enter Try.func24, Try.ntmps24
 go_upto_region 2 with fail
 have BX7 := am (show (((w.alloc (.cells #[.int .i64 a2_0, .int .i64 a2_1, .int .i64 a2_2, .int .i64 a2_3] 27)).alloc (.cells #[.int .i64 a3_0, .int .i64 a3_1] 25)).alloc (.map #[] 0)).heap[w.heap.size + 1]? = some (.cells #[.int .i64 a3_0, .int .i64 a3_1] 25 (0, 0)) from blk_alloc (by have := heap_newk (w.alloc (.cells #[.int .i64 a2_0, .int .i64 a2_1, .int .i64 a2_2, .int .i64 a2_3] 27)) (.cells #[.int .i64 a3_0, .int .i64 a3_1] 25); rw [alloc_size] at this; exact this) _)
 have HI := am (show SprAt w (w.heap.size + 1 + 1) a2_0 a2_1 a2_2 a2_3 (((w.alloc (.cells #[.int .i64 a2_0, .int .i64 a2_1, .int .i64 a2_2, .int .i64 a2_3] 27)).alloc (.cells #[.int .i64 a3_0, .int .i64 a3_1] 25)).alloc (.map #[] 0)) (.slice none 0 0) ([], []) from
  ⟨below_alloc (below_alloc b0.out _) _, by omega, blk_alloc (blk_alloc (heap_newk w _) _) _, by have := MapIs.made ((w.alloc (.cells #[.int .i64 a2_0, .int .i64 a2_1, .int .i64 a2_2, .int .i64 a2_3] 27)).alloc (.cells #[.int .i64 a3_0, .int .i64 a3_1] 25)); rw [alloc_size, alloc_size] at this; exact this, Kd.R_nil _ _ _ _ _⟩)
 generalize ((w.alloc (.cells #[.int .i64 a2_0, .int .i64 a2_1, .int .i64 a2_2, .int .i64 a2_3] 27)).alloc (.cells #[.int .i64 a3_0, .int .i64 a3_1] 25)).alloc (.map #[] 0) = w2 at BX7 HI ⊢
 have GM : Aside0 (w.heap.size ≤ w.heap.size + 1 + 1) := ⟨by omega⟩
 have G67 : Aside0 (w.heap.size ≠ w.heap.size + 1 ∧ w.heap.size + 1 ≠ w.heap.size + 1 + 1) := ⟨by omega, by omega⟩
 generalize w.heap.size + 1 + 1 = gm at HI GM G67 ⊢
 generalize w.heap.size + 1 = g7 at BX7 G67 ⊢
 clear b0 hmm
 have hz0 : w2.cell? ⟨g7, 0, none⟩ = some (.int .i64 a3_0) := (blk_cell BX7.out 0).trans rfl
 have hz1 : w2.cell? ⟨g7, 1, none⟩ = some (.int .i64 a3_1) := (blk_cell BX7.out 1).trans rfl
 go_wp2_with fail
 refine (screen_hidden.calls A0 c0 l0 A1 c1 l1 a3_0 a3_1 hd w2 (Kd.C_below HR0.out HI.out.bel) HC0.out (Kd.C_below HR1.out HI.out.bel) HC1.out AHH.out).mono ?_
 rintro e w3 ⟨rfl, hb⟩
 have BX3 := am (blk_below BX7.out hb)
 have HI3 := am (HI.out.below hb)
 clear hb hz0 hz1 BX7 HI AHH
 cases hd with
 | false =>
  obtain rfl := Option.some.inj ((if_neg (by decide)).symm.trans HH.out)
  go_wp2
  go_ret2
  exact ⟨_, _, rfl, HI3.out.row, HI3.out.map, GM.out, HI3.out.bel⟩
 | true =>
  obtain ⟨hok, HS⟩ := law_some ((if_pos rfl).symm.trans HH.out)
  have HOK := am hok
  have HS := am HS
  have hz0 : w3.cell? ⟨g7, 0, none⟩ = some (.int .i64 a3_0) := (blk_cell BX3.out 0).trans rfl
  have hz1 : w3.cell? ⟨g7, 1, none⟩ = some (.int .i64 a3_1) := (blk_cell BX3.out 1).trans rfl
  clear HH hok
  go_upto_region 5 with (first
   | ((with_reducible refine gate_dst (N := 29) rfl ?_); refine Kd.R_lit k25 _ 25 ?hg (N := 29) ?hd (xs := ([(⟨a3_0, a3_1⟩ : P2)] : List P2)) (inner := [.int .i64 a3_0, .int .i64 a3_1]) (ok := fun _ => True) (okp := fun _ => True) ?hr ?hp (fun _ hk => hk) trivial (Below.refl _ _) (Nat.le_refl _) (by simp) ?_; (case hd => rfl); (case hg => rfl); (case hr => first | (go_simp; done) | (go_simp; rfl)); (case hp => exact (Reps.c2 (show Kd.M k25 _ _ _ (⟨a3_0, a3_1⟩ : P2) [.int .i64 a3_0, .int .i64 a3_1] from (k25_mkM _ _ _ (⟨a3_0, a3_1⟩ : P2))) (Reps.none _ _))); intro v11 w4 ho hb hg_ hnew_; clear hg_ hnew_; have RW4 := am (Kd.R_lower (base' := w.heap.size) ho (below_size HI3.out.bel)); have HI4 := am (HI3.out.below hb); have BX4 := am (blk_below BX3.out hb); clear ho hb))
  have hz0' : w4.cell? ⟨g7, 0, none⟩ = some (.int .i64 a3_0) := (blk_cell BX4.out 0).trans rfl
  have hz1' : w4.cell? ⟨g7, 1, none⟩ = some (.int .i64 a3_1) := (blk_cell BX4.out 1).trans rfl
  have HI5 := am (show SprAt w gm a2_0 a2_1 a2_2 a2_3 w4 v11 ([⟨a3_0, a3_1⟩], []) from ⟨HI4.out.bel, HI4.out.gmb, HI4.out.box, HI4.out.map, RW4.out⟩)
  clear hz0 hz1 BX3 HI3 HI4 RW4
  go_upto_region 6 with (first | (at_mapUpdate; refine MapIs.store rfl _ _ _ rfl rfl HI5.out.map (by unfold maxLen; simp) (⟨a3_0, a3_1⟩ : P2) (⟨a3_0, a3_1⟩ : P2) HOK.out rfl rfl ?_; intro w5 hm hg; have HI6 := am (HI5.out.put hg hm); clear hm hg))
  clear hz0' hz1' HI5 BX4
  go_frame
  go_wp2
  go_loopg [11, 12] k (fun kq v11 v12 wr => ∃ (i : Nat) (s : List P2 × Back), v12 = .int .i64 i ∧ Aside0 (spreadF l0 l1 a2_0 a2_1 a2_2 a2_3 kq i s = some r) ∧ Aside0 (kq ≤ k) ∧ Aside0 (SprAt w gm a2_0 a2_1 a2_2 a2_3 wr v11 s))
  case atStart => exact ⟨0, _, rfl, HS, ⟨Nat.le_refl _⟩, HI6⟩
  case round =>(
 clear HS HI6
 obtain ⟨i, s, rfl, HA, HK1, HI⟩ := hrel
 obtain ⟨fo, ba⟩ := s
 obtain ⟨Af, cf, ef⟩ := Kd.R_slice HI.out.row
 subst ef
 cases gk with
 | zero => exact absurd HA.out (by simp [spreadF])
 | succ k1 =>
  have H := HA.out
  clear HA
  unfold spreadF at H
  by_cases c : i < fo.length
  {
 rw [dif_pos c] at H
 obtain ⟨s2, A2, H⟩ := Option.bind_eq_some_iff.mp H
 obtain ⟨ad, ha, h1, h2⟩ := at_T25 (Kd.R_reads' HI.out.row).2.2 (i : Int) (by omega) (by show (i : Int) < (fo.length : Int); omega)
 have hx : rd_T25 fo (i : Int) = fo[i] := by simp [rd_T25, List.getD_eq_getElem?_getD, List.getElem?_eq_getElem c]
 dsimp only at h1 h2 A2
 rw [hx, Int.toNat_natCast] at h1 h2
 obtain ⟨p, hp⟩ : ∃ p, fo[i] = p := ⟨_, rfl⟩
 rw [hp] at h1 h2 A2
 have AD := am A2
 have HR := am H
 have CL := am c
 have CB := am (show fo.length ≤ 9223372036854775807 from (Kd.R_reads' HI.out.row).2.2.2.1)
 clear hx hp A2 H
 subst ha
 go_wp2
 go_step3
 go_wp2
 go_step3
 go_wp2
 have HX := am (show SprAt w gm a2_0 a2_1 a2_2 a2_3 ((wr.alloc (.cells #[.int .i64 p.f0, .int .i64 p.f1] 25)).alloc (.cells #[.int .i64 1, .int .i64 0, .int .i64 (-1), .int .i64 0, .int .i64 0, .int .i64 1, .int .i64 0, .int .i64 (-1)] 25)) (.slice (some ad) fo.length cf) (fo, ba) from HI.out.below (below_alloc (below_alloc (Below.refl _ _) _) _))
 have BP := am (show ((wr.alloc (.cells #[.int .i64 p.f0, .int .i64 p.f1] 25)).alloc (.cells #[.int .i64 1, .int .i64 0, .int .i64 (-1), .int .i64 0, .int .i64 0, .int .i64 1, .int .i64 0, .int .i64 (-1)] 25)).heap[wr.heap.size]? = some (.cells #[.int .i64 p.f0, .int .i64 p.f1] 25 (0, 0)) from blk_alloc (heap_newk wr _) _)
 have BD := am (show ((wr.alloc (.cells #[.int .i64 p.f0, .int .i64 p.f1] 25)).alloc (.cells #[.int .i64 1, .int .i64 0, .int .i64 (-1), .int .i64 0, .int .i64 0, .int .i64 1, .int .i64 0, .int .i64 (-1)] 25)).heap[wr.heap.size + 1]? = some (.cells #[.int .i64 1, .int .i64 0, .int .i64 (-1), .int .i64 0, .int .i64 0, .int .i64 1, .int .i64 0, .int .i64 (-1)] 25 (0, 0)) from by have := heap_newk (wr.alloc (.cells #[.int .i64 p.f0, .int .i64 p.f1] 25)) (.cells #[.int .i64 1, .int .i64 0, .int .i64 (-1), .int .i64 0, .int .i64 0, .int .i64 1, .int .i64 0, .int .i64 (-1)] 25); rw [alloc_size] at this; exact this)
 have GQ : Aside0 (w.heap.size < wr.heap.size ∧ gm < wr.heap.size) := ⟨(Array.getElem?_eq_some_iff.1 HI.out.box).1, HI.out.map.lt⟩
 have OW : Aside0 (∀ k_, (Value.slice (some ad) fo.length cf).ownBlock = some k_ → k_ ≠ wr.heap.size ∧ k_ ≠ wr.heap.size + 1) := ⟨fun k_ hk => by have := Kd.R_lt HI.out.row k_ hk; omega⟩
 generalize (wr.alloc (.cells #[.int .i64 p.f0, .int .i64 p.f1] 25)).alloc (.cells #[.int .i64 1, .int .i64 0, .int .i64 (-1), .int .i64 0, .int .i64 0, .int .i64 1, .int .i64 0, .int .i64 (-1)] 25) = wi at HX BP BD ⊢
 clear HI h1 h2
 have GD : Aside0 (wr.heap.size + 1 ≠ gm ∧ wr.heap.size ≠ gm) := ⟨by have := GQ.out; omega, by have := GQ.out; omega⟩
 generalize wr.heap.size + 1 = gd at BD OW GD ⊢
 generalize wr.heap.size = gp at BP OW GD GQ ⊢
 go_loopw [11, 49] (fun v11 v49 wq => ∃ (j : Nat) (s : List P2 × Back), v49 = .int .i64 j ∧ Aside0 (j ≤ 4) ∧ Aside0 (dirsF l0 l1 a2_0 a2_1 a2_2 a2_3 p (dirs.drop j) s = some s2) ∧ Aside0 (SprAt w gm a2_0 a2_1 a2_2 a2_3 wq v11 s) ∧ Aside0 (wq.heap[gp]? = some (.cells #[.int .i64 p.f0, .int .i64 p.f1] 25 (0, 0))) ∧ Aside0 (wq.heap[gd]? = some (.cells #[.int .i64 1, .int .i64 0, .int .i64 (-1), .int .i64 0, .int .i64 0, .int .i64 1, .int .i64 0, .int .i64 (-1)] 25 (0, 0))) ∧ Aside0 (∀ k_, v11.ownBlock = some k_ → k_ ≠ gp ∧ k_ ≠ gd)) (fun _ v49 _ => 4 - (intOf v49).toNat)
 case atStart => exact ⟨0, (fo, ba), rfl, ⟨by omega⟩, AD, HX, BP, BD, OW⟩
 case round =>(
 clear AD HX BP BD OW
 obtain ⟨j, s, rfl, HJ, AD, HX, BP, BD, OW⟩ := hrel
 obtain ⟨fo, ba⟩ := s
 obtain ⟨Af, cf, ef⟩ := Kd.R_slice HX.out.row
 subst ef
 by_cases cj : j < 4
 {
 obtain ⟨d, hd, he0, he1⟩ := dirs_at BD.out cj
 have A := AD.out
 rw [hd] at A
 unfold dirsF at A
 obtain ⟨s3, T3, A3⟩ := Option.bind_eq_some_iff.mp A
 have T3 := am T3
 have A3 := am A3
 have CJ := am cj
 have hz0 : ∀ o, (wr.alloc o).cell? ⟨gp, 0, none⟩ = some (.int .i64 p.f0) := fun o => (blk_cell (blk_alloc BP.out o) 0).trans rfl
 have hz1 : ∀ o, (wr.alloc o).cell? ⟨gp, 1, none⟩ = some (.int .i64 p.f1) := fun o => (blk_cell (blk_alloc BP.out o) 1).trans rfl
 clear hd A AD
 go_upto_region 14 with fail
 generalize wrap64 (p.f0 + d.f0) = q0 at T3 ⊢
 generalize wrap64 (p.f1 + d.f1) = q1 at T3 ⊢
 have HX4 := am (show SprAt w gm a2_0 a2_1 a2_2 a2_3 ((wr.alloc (.cells #[.int .i64 d.f0, .int .i64 d.f1] 25)).alloc (.cells #[.int .i64 q0, .int .i64 q1] 25)) (.slice Af fo.length cf) (fo, ba) from HX.out.below (below_alloc (below_alloc (Below.refl _ _) _) _))
 have BP4 := am (blk_alloc (blk_alloc BP.out (.cells #[.int .i64 d.f0, .int .i64 d.f1] 25)) (.cells #[.int .i64 q0, .int .i64 q1] 25))
 have BD4 := am (blk_alloc (blk_alloc BD.out (.cells #[.int .i64 d.f0, .int .i64 d.f1] 25)) (.cells #[.int .i64 q0, .int .i64 q1] 25))
 have BQ4 := am (show ((wr.alloc (.cells #[.int .i64 d.f0, .int .i64 d.f1] 25)).alloc (.cells #[.int .i64 q0, .int .i64 q1] 25)).heap[wr.heap.size + 1]? = some (.cells #[.int .i64 q0, .int .i64 q1] 25 (0, 0)) from by have := heap_newk (wr.alloc (.cells #[.int .i64 d.f0, .int .i64 d.f1] 25)) (.cells #[.int .i64 q0, .int .i64 q1] 25); rw [alloc_size] at this; exact this)
 have OQ : Aside0 (wr.heap.size + 1 ≠ gm ∧ ∀ k_, (Value.slice Af fo.length cf).ownBlock = some k_ → k_ ≠ wr.heap.size + 1) := ⟨by have := HX.out.map.lt; omega, fun k_ hk => by have := Kd.R_lt HX.out.row k_ hk; omega⟩
 have GS : Aside0 (gp < wr.heap.size ∧ gd < wr.heap.size) := ⟨(Array.getElem?_eq_some_iff.1 BP.out).1, (Array.getElem?_eq_some_iff.1 BD.out).1⟩
 have e4 := @am _ (below_size (HX4.out.bel))
 generalize (wr.alloc (.cells #[.int .i64 d.f0, .int .i64 d.f1] 25)).alloc (.cells #[.int .i64 q0, .int .i64 q1] 25) = w4 at HX4 BP4 BD4 BQ4 e4 ⊢
 clear HX BP BD hz0 hz1 he0 he1 e4
 generalize wr.heap.size + 1 = gq at BQ4 OQ ⊢
 have T4 := T3.out
 unfold tryF at T4
 obtain ⟨⟨hok, hl1, hl2⟩, T4⟩ := law_some T4
 have HOQ := am hok
 have HL := am (show fo.length < 1000000 ∧ ba.length < 1000000 from And.intro hl1 hl2)
 have hq0 : w4.cell? ⟨gq, 0, none⟩ = some (.int .i64 q0) := (blk_cell BQ4.out 0).trans rfl
 have hq1 : w4.cell? ⟨gq, 1, none⟩ = some (.int .i64 q1) := (blk_cell BQ4.out 1).trans rfl
 have TT := am T4
 clear T3 T4 hok hl1 hl2
 go_upto_region 15 with (first | (at_lookup; refine MapIs.look_ok rfl _ _ rfl rfl HX4.out.map (⟨q0, q1⟩ : P2) HOQ.out rfl ?_; intro kp kb ekp ekb; have EK := am ekb; clear ekp ekb))
 have HX5 := am (HX4.out.below (below_alloc (Below.refl _ _) (.cells #[.int .i64 kp.f0, .int .i64 kp.f1] 25)))
 have BP5 := am (blk_alloc BP4.out (.cells #[.int .i64 kp.f0, .int .i64 kp.f1] 25))
 have BD5 := am (blk_alloc BD4.out (.cells #[.int .i64 kp.f0, .int .i64 kp.f1] 25))
 have BQ5 := am (blk_alloc BQ4.out (.cells #[.int .i64 kp.f0, .int .i64 kp.f1] 25))
 generalize w4.alloc (.cells #[.int .i64 kp.f0, .int .i64 kp.f1] 25) = w5 at HX5 BP5 BD5 BQ5 ⊢
 clear HX4 BP4 BD4 BQ4 hq0 hq1
 have hq0 : w5.cell? ⟨gq, 0, none⟩ = some (.int .i64 q0) := (blk_cell BQ5.out 0).trans rfl
 have hq1 : w5.cell? ⟨gq, 1, none⟩ = some (.int .i64 q1) := (blk_cell BQ5.out 1).trans rfl
 have hb0 : w5.cell? ⟨w.heap.size, 0, none⟩ = some (.int .i64 a2_0) := (blk_cell HX5.out.box 0).trans rfl
 have hb1 : w5.cell? ⟨w.heap.size, 1, none⟩ = some (.int .i64 a2_1) := (blk_cell HX5.out.box 1).trans rfl
 have hb2 : w5.cell? ⟨w.heap.size, 2, none⟩ = some (.int .i64 a2_2) := (blk_cell HX5.out.box 2).trans rfl
 have hb3 : w5.cell? ⟨w.heap.size, 3, none⟩ = some (.int .i64 a2_3) := (blk_cell HX5.out.box 3).trans rfl
 cases kb with
 | true =>
  have T5 := TT.out
  rw [← EK.out, if_pos rfl] at T5
  obtain rfl := Option.some.inj T5
  clear T5 TT EK
  go_wp2
  go_roundw
  case rel => exact ⟨j + 1, (fo, ba), by go_num, ⟨by have := CJ.out; omega⟩, A3, HX5, BP5, BD5, OW⟩
  case measure => simp [intOf]; have := CJ.out; omega
 | false =>
  have T5 := TT.out
  rw [← EK.out, if_neg (by decide)] at T5
  obtain ⟨iv, AI, T6⟩ := Option.bind_eq_some_iff.mp T5
  have AI := am AI
  have T6 := am T6
  clear T5 TT
  go_wp2_with fail
  refine (screen_inside.calls a2_0 a2_1 a2_2 a2_3 q0 q1 iv w5 AI.out).mono ?_
  rintro e w6 ⟨rfl, hb⟩
  have HX6 := am (HX5.out.below hb)
  have BP6 := am (blk_below BP5.out hb)
  have BD6 := am (blk_below BD5.out hb)
  have BQ6 := am (blk_below BQ5.out hb)
  clear hb HX5 BP5 BD5 BQ5 hq0 hq1 hb0 hb1 hb2 hb3 AI
  cases iv with
  | false =>
   have T7 := T6.out
   rw [if_neg (by decide)] at T7
   obtain rfl := Option.some.inj T7
   clear T7 T6
   go_wp2
   go_roundw
   case rel => exact ⟨j + 1, (fo, ba), by go_num, ⟨by have := CJ.out; omega⟩, A3, HX6, BP6, BD6, OW⟩
   case measure => simp [intOf]; have := CJ.out; omega
  | true =>
   have T7 := T6.out
   rw [if_pos rfl] at T7
   obtain ⟨sv, AS, T8⟩ := Option.bind_eq_some_iff.mp T7
   have AS := am AS
   have T8 := am T8
   have hq0 : w6.cell? ⟨gq, 0, none⟩ = some (.int .i64 q0) := (blk_cell BQ6.out 0).trans rfl
   have hq1 : w6.cell? ⟨gq, 1, none⟩ = some (.int .i64 q1) := (blk_cell BQ6.out 1).trans rfl
   have hp0 : w6.cell? ⟨gp, 0, none⟩ = some (.int .i64 p.f0) := (blk_cell BP6.out 0).trans rfl
   have hp1 : w6.cell? ⟨gp, 1, none⟩ = some (.int .i64 p.f1) := (blk_cell BP6.out 1).trans rfl
   clear T7 T6
   go_wp2_with fail
   refine (screen_sees.calls A0 c0 l0 p.f0 p.f1 q0 q1 sv w6 (Kd.C_below HR0.out HX6.out.bel) HC0.out AS.out).mono ?_
   rintro e w7 ⟨rfl, hb⟩
   have HX7 := am (HX6.out.below hb)
   have BP7 := am (blk_below BP6.out hb)
   have BD7 := am (blk_below BD6.out hb)
   have BQ7 := am (blk_below BQ6.out hb)
   clear hb HX6 BP6 BD6 BQ6 hq0 hq1 hp0 hp1 AS
   cases sv with
   | false =>
    have T9 := T8.out
    rw [if_neg (by decide)] at T9
    obtain rfl := Option.some.inj T9
    clear T9 T8
    go_wp2
    go_roundw
    case rel => exact ⟨j + 1, (fo, ba), by go_num, ⟨by have := CJ.out; omega⟩, A3, HX7, BP7, BD7, OW⟩
    case measure => simp [intOf]; have := CJ.out; omega
   | true =>
    have T9 := T8.out
    rw [if_pos rfl] at T9
    obtain ⟨ev, AE, T10⟩ := Option.bind_eq_some_iff.mp T9
    have AE := am (show eyesF l0 ⟨q0, q1⟩ (l1.drop 0) = some ev from AE)
    have T10 := am T10
    clear T9 T8 EK
    go_wp2
    go_loopw [86] (fun v86 wq => ∃ m : Nat, v86 = .int .i64 m ∧ Aside0 (m ≤ l1.length) ∧ Aside0 (eyesF l0 ⟨q0, q1⟩ (l1.drop m) = some ev) ∧ Aside0 (SprAt w gm a2_0 a2_1 a2_2 a2_3 wq (.slice Af fo.length cf) (fo, ba)) ∧ Aside0 (wq.heap[gp]? = some (.cells #[.int .i64 p.f0, .int .i64 p.f1] 25 (0, 0))) ∧ Aside0 (wq.heap[gd]? = some (.cells #[.int .i64 1, .int .i64 0, .int .i64 (-1), .int .i64 0, .int .i64 0, .int .i64 1, .int .i64 0, .int .i64 (-1)] 25 (0, 0))) ∧ Aside0 (wq.heap[gq]? = some (.cells #[.int .i64 q0, .int .i64 q1] 25 (0, 0)))) (fun v86 _ => l1.length - (intOf v86).toNat)
    case atStart => exact ⟨0, rfl, ⟨Nat.zero_le _⟩, AE, HX7, BP7, BD7, BQ7⟩
    case round =>(
 clear AE HX7 BP7 BD7 BQ7
 obtain ⟨m, rfl, HM, AE, HX, BP, BD, BQ⟩ := hrel
 have hm := HM.out
 by_cases cm : m < l1.length
 {
 have A := AE.out
 rw [List.drop_eq_getElem_cons cm] at A
 obtain ⟨ad, ha, h1, h2⟩ := at_T25 (Kd.C_below HR1.out HX.out.bel) (m : Int) (by omega) (by omega)
 have hx : rd_T25 l1 (m : Int) = l1[m] := by simp [rd_T25, List.getD_eq_getElem?_getD, List.getElem?_eq_getElem cm]
 rw [hx, Int.toNat_natCast] at h1 h2
 obtain ⟨y, hy⟩ : ∃ y, l1[m] = y := ⟨_, rfl⟩
 rw [hy] at h1 h2 A
 unfold eyesF at A
 obtain ⟨yv, AY, A2⟩ := Option.bind_eq_some_iff.mp A
 have AY := am AY
 have A2 := am A2
 have CM := am cm
 clear hx hy A AE
 subst ha
 have hq0 : ∀ o, (wr.alloc o).cell? ⟨gq, 0, none⟩ = some (.int .i64 q0) := fun o => (blk_cell (blk_alloc BQ.out o) 0).trans rfl
 have hq1 : ∀ o, (wr.alloc o).cell? ⟨gq, 1, none⟩ = some (.int .i64 q1) := fun o => (blk_cell (blk_alloc BQ.out o) 1).trans rfl
 go_wp2_with fail
 refine (screen_sees.calls A0 c0 l0 y.f0 y.f1 q0 q1 yv _ (Kd.C_below HR0.out (below_alloc HX.out.bel _)) HC0.out AY.out).mono ?_
 rintro e w8 ⟨rfl, hb⟩
 have hb := below_step (below_alloc (Below.refl _ _) _) hb
 have HX8 := am (HX.out.below hb)
 have BP8 := am (blk_below (g := gp) (o := (.cells #[.int .i64 p.f0, .int .i64 p.f1] 25 (0, 0))) BP.out hb)
 have BD8 := am (blk_below (g := gd) (o := (.cells #[.int .i64 1, .int .i64 0, .int .i64 (-1), .int .i64 0, .int .i64 0, .int .i64 1, .int .i64 0, .int .i64 (-1)] 25 (0, 0))) BD.out hb)
 have BQ8 := am (blk_below (g := gq) (o := (.cells #[.int .i64 q0, .int .i64 q1] 25 (0, 0))) BQ.out hb)
 clear hb HX BP BD BQ hq0 hq1 AY h1 h2
 cases yv with
 | true =>
  have A3' := A2.out
  rw [if_pos rfl] at A3'
  obtain rfl := Option.some.inj A3'
  have T11 := T10.out
  rw [if_pos rfl] at T11
  obtain rfl := Option.some.inj T11
  clear A3' A2 T11 T10
  go_wp2
  go_roundw
  case rel => exact ⟨j + 1, (fo, ba), by go_num, ⟨by have := CJ.out; omega⟩, A3, HX8, BP8, BD8, OW⟩
  case measure => simp [intOf]; have := CJ.out; omega
 | false =>
  have A3' := A2.out
  rw [if_neg (by decide)] at A3'
  have A4 := am A3'
  have cm2 := CM.out
  have cb := HR1.out.2.1
  clear A3' A2
  go_wp2
  go_roundw
  case rel => exact ⟨m + 1, by go_num, ⟨by have := CM.out; omega⟩, A4, HX8, BP8, BD8, BQ8⟩
  case measure => simp [intOf]; have := CM.out; omega}
 have A := AE.out
 rw [List.drop_eq_nil_of_le (by omega)] at A
 unfold eyesF at A
 obtain rfl := Option.some.inj A
 have T11 := T10.out
 rw [if_neg (by decide)] at T11
 obtain rfl := Option.some.inj T11
 have hq0 : wr.cell? ⟨gq, 0, none⟩ = some (.int .i64 q0) := (blk_cell BQ.out 0).trans rfl
 have hq1 : wr.cell? ⟨gq, 1, none⟩ = some (.int .i64 q1) := (blk_cell BQ.out 1).trans rfl
 have hp0 : wr.cell? ⟨gp, 0, none⟩ = some (.int .i64 p.f0) := (blk_cell BP.out 0).trans rfl
 have hp1 : wr.cell? ⟨gp, 1, none⟩ = some (.int .i64 p.f1) := (blk_cell BP.out 1).trans rfl
 clear A AE T11 T10
 go_upto_region 22 with (first | (at_mapUpdate; go_loud (refine MapIs.store rfl _ _ _ rfl rfl HX.out.map (by have := HL.out.2; show ba.length < maxLen; unfold maxLen; omega) (⟨q0, q1⟩ : P2) p HOQ.out rfl rfl ?_); intro w9 hmm hg; have HX9 := am (HX.out.put hg hmm); have BP9 := am (blk_grown (g := gp) (o := (.cells #[.int .i64 p.f0, .int .i64 p.f1] 25 (0, 0))) BP.out hg (fun e => GD.out.2 (by injection e))); have BD9 := am (blk_grown (g := gd) (o := (.cells #[.int .i64 1, .int .i64 0, .int .i64 (-1), .int .i64 0, .int .i64 0, .int .i64 1, .int .i64 0, .int .i64 (-1)] 25 (0, 0))) BD.out hg (fun e => GD.out.1 (by injection e))); have BQ9 := am (blk_grown (g := gq) (o := (.cells #[.int .i64 q0, .int .i64 q1] 25 (0, 0))) BQ.out hg (fun e => OQ.out.1 (by injection e))); clear hmm hg))
 (try go_frame)
 clear HX BP BD BQ hq0 hq1 hp0 hp1
 have hq0 : w9.cell? ⟨gq, 0, none⟩ = some (.int .i64 q0) := (blk_cell BQ9.out 0).trans rfl
 have hq1 : w9.cell? ⟨gq, 1, none⟩ = some (.int .i64 q1) := (blk_cell BQ9.out 1).trans rfl
 go_wp2_with (first | ((with_reducible refine gate_builtin (b := .append) (xs := #[.tmp 98, .tmp 100]) rfl ?_); at_builtin; refine Kd.R_append k25 (w0 := w) w.heap.size rfl (.tmp 98) (.tmp 100) 23 25 (.agg #[(.int .i64 0), (.int .i64 0)]) 16 rfl Try.underlying23 info25 rfl (by decide) (by omega) (.slice Af fo.length cf) fo (⟨q0, q1⟩ : P2) [.int .i64 q0, .int .i64 q1] (fun _ => True) (fun _ => False) rfl rfl (k25_mkM _ _ _ (⟨q0, q1⟩ : P2)) (fun _ hk => hk.elim) (fun _ _ => trivial) HX9.out.row HX9.out.bel (below_size HX9.out.bel) (by have := HL.out.1; omega) ?_; intro v10 w10 ho hb10 hg hat; have HX10 := am (HX9.out.more hg ho); have BP10 := am (blk_grown (g := gp) (o := (.cells #[.int .i64 p.f0, .int .i64 p.f1] 25 (0, 0))) BP9.out hg (fun e => (OW.out gp e.symm).1 rfl)); have BD10 := am (blk_grown (g := gd) (o := (.cells #[.int .i64 1, .int .i64 0, .int .i64 (-1), .int .i64 0, .int .i64 0, .int .i64 1, .int .i64 0, .int .i64 (-1)] 25 (0, 0))) BD9.out hg (fun e => (OW.out gd e.symm).2 rfl)); have OW10 : Aside0 (∀ k_, v10.ownBlock = some k_ → k_ ≠ gp ∧ k_ ≠ gd) := ⟨spr_own OW.out hat (Array.getElem?_eq_some_iff.1 BP9.out).1 (Array.getElem?_eq_some_iff.1 BD9.out).1⟩; obtain ⟨Ao, co, eo⟩ := Kd.R_slice ho; subst eo; clear ho hb10 hg hat hq0 hq1))
 have HX11 : Aside0 (SprAt w gm a2_0 a2_1 a2_2 a2_3 w10 (.slice Ao (fo.length + 1) co) (fo ++ [⟨q0, q1⟩], (⟨q0, q1⟩, p) :: ba)) := ⟨by have h_ := HX10.out; rw [List.length_append] at h_; exact h_⟩
 have OW11 : Aside0 (∀ k_, (Value.slice Ao (fo.length + 1) co).ownBlock = some k_ → k_ ≠ gp ∧ k_ ≠ gd) := ⟨by have h_ := OW10.out; rw [List.length_append] at h_; exact h_⟩
 go_roundw
 case rel => exact ⟨j + 1, (fo ++ [⟨q0, q1⟩], (⟨q0, q1⟩, p) :: ba), by go_num, ⟨by have := CJ.out; omega⟩, A3, HX11, BP10, BD10, OW11⟩
 case measure => simp [intOf]; have := CJ.out; omega)}
 have A := AD.out
 rw [List.drop_eq_nil_of_le (by show 4 ≤ j; omega)] at A
 unfold dirsF at A
 obtain rfl := Option.some.inj A
 have ci := CL.out
 have cb := CB.out
 clear A AD
 go_wp2
 go_roundg k1
 case measure => have := HK1.out; omega
 case rel => exact ⟨i + 1, (fo, ba), by go_num, HR, ⟨by have := HK1.out; omega⟩, HX⟩)}
  rw [dif_neg c] at H
  obtain rfl := Option.some.inj H
  go_wp2
  go_ret2
  exact ⟨_, _, rfl, HI.out.row, HI.out.map, GM.out, HI.out.bel⟩)
def wayF (ba : Back) (f0 f1 : Int) : Nat → P2 → List P2 → Option (List P2)
 | 0, _, _ => none
 | k + 1, p, way => if p.f0 = f0 ∧ p.f1 = f1 then some way else (if ptOk p ∧ way.length < 1000000 then wayF ba f0 f1 k ((bGet ba p).getD ⟨0, 0⟩) (way ++ [(bGet ba p).getD ⟨0, 0⟩]) else none)
def screen_Way.f (k : Nat) (l0 : List S48) (l1 : List P2) (a2_0 a2_1 a2_2 a2_3 a3_0 a3_1 a4_0 a4_1 : Int) : Option (List P2 × Bool × Int) :=
 (screen_ends.f k l0 l1 a2_0 a2_1 a2_2 a2_3 [⟨a3_0, a3_1⟩, ⟨a4_0, a4_1⟩]).bind fun e => if e = 0 then
  (screen_spread.f k l0 l1 a2_0 a2_1 a2_2 a2_3 a3_0 a3_1).bind fun s => (if ptOk ⟨a4_0, a4_1⟩ then
   (if (bGet s.2 ⟨a4_0, a4_1⟩).isSome = true then (wayF s.2 a3_0 a3_1 k ⟨a4_0, a4_1⟩ [⟨a4_0, a4_1⟩]).bind fun wy => (api_Point_25.f k wy).bind fun rv => some (rv, true, 0) else some ([], false, 0)) else none)
 else some ([], false, e)
theorem blk_any {w : World} {g : Nat} {o o2 : Obj} (h : w.heap[g]? = some o) : (w.alloc o2).heap[g]? = some o := by
 have hl := (Array.getElem?_eq_some_iff.1 h).1
 show (w.heap.push o2)[g]? = some o
 rw [Array.getElem?_push_lt hl, ← h, Array.getElem?_eq_getElem hl]
theorem three_boxes (w : World) (o1 o2 o3 : Obj) : (((w.alloc o1).alloc o2).alloc o3).heap[w.heap.size]? = some o1 ∧ (((w.alloc o1).alloc o2).alloc o3).heap[w.heap.size + 1]? = some o2 ∧ (((w.alloc o1).alloc o2).alloc o3).heap[w.heap.size + 1 + 1]? = some o3 ∧ Below w.heap.size w (((w.alloc o1).alloc o2).alloc o3) := by
 have e1 := alloc_size w o1
 have e2 := alloc_size (w.alloc o1) o2
 have h2 := heap_newk (w.alloc o1) o2
 have h3 := heap_newk ((w.alloc o1).alloc o2) o3
 rw [e1] at e2 h2
 rw [e2] at h3
 exact ⟨blk_any (blk_any (heap_newk w o1)), blk_any h2, h3, below_alloc (below_alloc (below_alloc (Below.refl _ _) _) _) _⟩
structure WayAt (w : World) (g g8 : Nat) (ba : Back) (a3_0 a3_1 : Int) (W : World) (gp : Nat) (p : P2) (v : Value) (way : List P2) : Prop where
 bel : Below w.heap.size w W
 base : w.heap.size ≤ gp
 ne : gp ≠ g8
 map : MapIs W g ba
 box : W.heap[g8]? = some (.cells #[.int .i64 a3_0, .int .i64 a3_1] 25 (0, 0))
 at_ : W.heap[gp]? = some (.cells #[.int .i64 p.f0, .int .i64 p.f1] 25 (0, 0))
 row : Kd.R k25 25 W w.heap.size (fun k_ => k_ ≠ g8 ∧ k_ ≠ gp) v way
set_option maxHeartbeats 8000000 in
theorem screen_Way.calls (k : Nat) (A0 : Option Addr) (c0 : Nat) (l0 : List S48) (A1 : Option Addr) (c1 : Nat) (l1 : List P2) (a2_0 a2_1 a2_2 a2_3 a3_0 a3_1 a4_0 a4_1 : Int) (r1 : List P2) (r2 : Bool) (r3 : Int) (w : World)
 (hr0 : Kd.C k48 w A0 l0.length l0) (hc0 : l0.length ≤ c0) (hr1 : Kd.C k25 w A1 l1.length l1) (hc1 : l1.length ≤ c1) (h : screen_Way.f k l0 l1 a2_0 a2_1 a2_2 a2_3 a3_0 a3_1 a4_0 a4_1 = some (r1, r2, r3)) :
 Calls Try.prog 9 #[.slice A0 l0.length c0, .slice A1 l1.length c1, .agg #[.int .i64 a2_0, .int .i64 a2_1, .int .i64 a2_2, .int .i64 a2_3], .agg #[.int .i64 a3_0, .int .i64 a3_1], .agg #[.int .i64 a4_0, .int .i64 a4_1]] w fun e w' => ∃ v0_ : Value, e = .returned (.tuple #[v0_, .bool r2, .int .i64 r3]) ∧ Kd.R k25 25 w' w.heap.size (fun _ => True) v0_ r1 ∧ Below w.heap.size w w' := by
 have hu := Try.underlying25
 have HR0 := am hr0
 have HR1 := am hr1
 have HC0 := am hc0
 have HC1 := am hc1
 obtain ⟨en, AE, H⟩ := Option.bind_eq_some_iff.mp h
 have HH := am H
 have AE := am AE
 clear hr0 hr1 hc0 hc1 h H
 go_enter Try.func9, Try.ntmps9
 go_upto_region 1 with fail
 obtain ⟨B7, B8, B9, BB⟩ := three_boxes w (.cells #[.int .i64 a2_0, .int .i64 a2_1, .int .i64 a2_2, .int .i64 a2_3] 27) (.cells #[.int .i64 a3_0, .int .i64 a3_1] 25) (.cells #[.int .i64 a4_0, .int .i64 a4_1] 25)
 generalize ((w.alloc (.cells #[.int .i64 a2_0, .int .i64 a2_1, .int .i64 a2_2, .int .i64 a2_3] 27)).alloc (.cells #[.int .i64 a3_0, .int .i64 a3_1] 25)).alloc (.cells #[.int .i64 a4_0, .int .i64 a4_1] 25) = w2 at B7 B8 B9 BB ⊢
 have GG : Aside0 (w.heap.size ≤ w.heap.size + 1 ∧ w.heap.size ≤ w.heap.size + 1 + 1) := ⟨by omega, by omega⟩
 generalize w.heap.size + 1 + 1 = g9 at B9 GG ⊢
 generalize w.heap.size + 1 = g8 at B8 GG ⊢
 have H7 := am B7
 have H8 := am B8
 have H9 := am B9
 have HB := am BB
 have b0 : w2.cell? ⟨w.heap.size, 0, none⟩ = some (.int .i64 a2_0) := (blk_cell B7 0).trans rfl
 have b1 : w2.cell? ⟨w.heap.size, 1, none⟩ = some (.int .i64 a2_1) := (blk_cell B7 1).trans rfl
 have b2 : w2.cell? ⟨w.heap.size, 2, none⟩ = some (.int .i64 a2_2) := (blk_cell B7 2).trans rfl
 have b3 : w2.cell? ⟨w.heap.size, 3, none⟩ = some (.int .i64 a2_3) := (blk_cell B7 3).trans rfl
 have f0 : w2.cell? ⟨g8, 0, none⟩ = some (.int .i64 a3_0) := (blk_cell B8 0).trans rfl
 have f1 : w2.cell? ⟨g8, 1, none⟩ = some (.int .i64 a3_1) := (blk_cell B8 1).trans rfl
 have t0 : w2.cell? ⟨g9, 0, none⟩ = some (.int .i64 a4_0) := (blk_cell B9 0).trans rfl
 have t1 : w2.cell? ⟨g9, 1, none⟩ = some (.int .i64 a4_1) := (blk_cell B9 1).trans rfl
 clear B7 B8 B9 BB
 go_wp2_with (first | ((with_reducible refine gate_dst (N := 25) rfl ?_); refine Kd.R_lit k25 _ 25 ?hg (N := 25) ?hd (xs := ([(⟨a3_0, a3_1⟩ : P2), (⟨a4_0, a4_1⟩ : P2)] : List P2)) (inner := [.int .i64 a3_0, .int .i64 a3_1, .int .i64 a4_0, .int .i64 a4_1]) (ok := fun _ => True) (okp := fun _ => True) ?hr ?hp (fun _ hk => hk) trivial (Below.refl _ _) (Nat.le_refl _) (by simp) ?_; (case hd => rfl); (case hg => rfl); (case hr => first | (go_simp; done) | (go_simp; rfl)); (case hp => exact (Reps.c2 (show Kd.M k25 _ _ _ (⟨a3_0, a3_1⟩ : P2) [.int .i64 a3_0, .int .i64 a3_1] from (k25_mkM _ _ _ (⟨a3_0, a3_1⟩ : P2))) (Reps.c2 (show Kd.M k25 _ _ _ (⟨a4_0, a4_1⟩ : P2) [.int .i64 a4_0, .int .i64 a4_1] from (k25_mkM _ _ _ (⟨a4_0, a4_1⟩ : P2))) (Reps.none _ _)))); intro v25 w3 ho hb hg_ hnew_; clear hg_ hnew_; obtain ⟨A25, c25, e25⟩ := Kd.R_slice ho; subst e25; have RR := am (Kd.R_reads' ho); have HB3 := am hb; clear ho hb))
 refine (screen_ends.calls k A0 c0 l0 A1 c1 l1 a2_0 a2_1 a2_2 a2_3 _ _ [⟨a3_0, a3_1⟩, ⟨a4_0, a4_1⟩] en w3 (Kd.C_below HR0.out (below_step HB.out HB3.out)) HC0.out (Kd.C_below HR1.out (below_step HB.out HB3.out)) HC1.out RR.out.2.2 RR.out.2.1 AE.out).mono ?_
 rintro e w4 ⟨rfl, hb⟩
 have hb := below_step HB3.out hb
 have N7 := am (blk_below (g := w.heap.size) (o := .cells #[.int .i64 a2_0, .int .i64 a2_1, .int .i64 a2_2, .int .i64 a2_3] 27 (0, 0)) H7.out hb)
 have N8 := am (blk_below H8.out hb)
 have N9 := am (blk_below H9.out hb)
 have HB4 := am (below_step HB.out hb)
 clear hb b0 b1 b2 b3 f0 f1 t0 t1 H7 H8 H9 HB HB3 RR AE
 by_cases ce : en = 0
 {
 have H2 := HH.out
 rw [if_pos ce] at H2
 subst ce
 obtain ⟨s, AS, H3⟩ := Option.bind_eq_some_iff.mp H2
 obtain ⟨hok, H4⟩ := law_some H3
 have AS := am AS
 have HOK := am hok
 have H5 := am H4
 have b0 : w4.cell? ⟨w.heap.size, 0, none⟩ = some (.int .i64 a2_0) := (blk_cell N7.out 0).trans rfl
 have b1 : w4.cell? ⟨w.heap.size, 1, none⟩ = some (.int .i64 a2_1) := (blk_cell N7.out 1).trans rfl
 have b2 : w4.cell? ⟨w.heap.size, 2, none⟩ = some (.int .i64 a2_2) := (blk_cell N7.out 2).trans rfl
 have b3 : w4.cell? ⟨w.heap.size, 3, none⟩ = some (.int .i64 a2_3) := (blk_cell N7.out 3).trans rfl
 have f0 : w4.cell? ⟨g8, 0, none⟩ = some (.int .i64 a3_0) := (blk_cell N8.out 0).trans rfl
 have f1 : w4.cell? ⟨g8, 1, none⟩ = some (.int .i64 a3_1) := (blk_cell N8.out 1).trans rfl
 clear H2 H3 H4 HH hok
 go_wp2_with fail
 refine (screen_spread.calls k A0 c0 l0 A1 c1 l1 a2_0 a2_1 a2_2 a2_3 a3_0 a3_1 s w4 (Kd.C_below HR0.out HB4.out) HC0.out (Kd.C_below HR1.out HB4.out) HC1.out AS.out).mono ?_
 rintro e w5 ⟨vf, gm, rfl, hrow, hmap, hgm, hb⟩
 have M5 := am hmap
 have N8' := am (blk_below N8.out hb)
 have N9' := am (blk_below N9.out hb)
 have HB5 := am (below_step HB4.out hb)
 obtain ⟨Af, cf, ef⟩ := Kd.R_slice hrow
 subst ef
 clear hrow hmap hgm hb b0 b1 b2 b3 f0 f1 N7 N8 N9 HB4 AS
 have t0 : w5.cell? ⟨g9, 0, none⟩ = some (.int .i64 a4_0) := (blk_cell N9'.out 0).trans rfl
 have t1 : w5.cell? ⟨g9, 1, none⟩ = some (.int .i64 a4_1) := (blk_cell N9'.out 1).trans rfl
 go_upto_region 6 with (first | (at_lookup; refine MapIs.look_ok rfl _ _ rfl rfl M5.out (⟨a4_0, a4_1⟩ : P2) HOK.out rfl ?_; intro kp kb ekp ekb; have EK := am ekb; clear ekp ekb))
 have M6 := am (M5.out.below (below_alloc (Below.refl _ _) (.cells #[.int .i64 kp.f0, .int .i64 kp.f1] 25)))
 have N86 := am (blk_any (o2 := .cells #[.int .i64 kp.f0, .int .i64 kp.f1] 25) N8'.out)
 have N96 := am (blk_any (o2 := .cells #[.int .i64 kp.f0, .int .i64 kp.f1] 25) N9'.out)
 have HB6 := am (below_alloc HB5.out (.cells #[.int .i64 kp.f0, .int .i64 kp.f1] 25))
 generalize w5.alloc (.cells #[.int .i64 kp.f0, .int .i64 kp.f1] 25) = w6 at M6 N86 N96 HB6 ⊢
 clear M5 N8' N9' HB5 t0 t1
 cases kb with
 | false =>
  have H6 := H5.out
  rw [← EK.out, if_neg (by decide)] at H6
  simp only [Option.some.injEq, Prod.mk.injEq] at H6
  obtain ⟨rfl, rfl, rfl⟩ := H6
  clear H5 EK
  go_wp2
  go_ret3
  exact ⟨_, rfl, Kd.R_nil _ _ _ _ _, HB6.out⟩
 | true =>
  have H6 := H5.out
  rw [← EK.out, if_pos rfl] at H6
  obtain ⟨wy, AW, H7⟩ := Option.bind_eq_some_iff.mp H6
  obtain ⟨rv, AR, H8⟩ := Option.bind_eq_some_iff.mp H7
  simp only [Option.some.injEq, Prod.mk.injEq] at H8
  obtain ⟨rfl, rfl, rfl⟩ := H8
  have AW := am AW
  have AR := am AR
  have t0 : w6.cell? ⟨g9, 0, none⟩ = some (.int .i64 a4_0) := (blk_cell N96.out 0).trans rfl
  have t1 : w6.cell? ⟨g9, 1, none⟩ = some (.int .i64 a4_1) := (blk_cell N96.out 1).trans rfl
  clear H5 H6 H7 EK
  go_upto_region 9 with (first | ((with_reducible refine gate_dst (N := 47) rfl ?_); refine Kd.R_lit k25 _ 25 ?hg (N := 47) ?hd (xs := ([(⟨a4_0, a4_1⟩ : P2)] : List P2)) (inner := [.int .i64 a4_0, .int .i64 a4_1]) (ok := fun k_ => w6.heap.size ≤ k_) (okp := fun k_ => w6.heap.size ≤ k_) ?hr ?hp (fun _ hk => hk) (Nat.le_refl _) (Below.refl _ _) (Nat.le_refl _) (by simp) ?_; (case hd => rfl); (case hg => rfl); (case hr => first | (go_simp; done) | (go_simp; rfl)); (case hp => exact (Reps.c2 (show Kd.M k25 _ _ _ (⟨a4_0, a4_1⟩ : P2) [.int .i64 a4_0, .int .i64 a4_1] from (k25_mkM _ _ _ (⟨a4_0, a4_1⟩ : P2))) (Reps.none _ _))); intro v18 w7 ho hb hg_ hnew_; clear hg_ hnew_; have RW7 := am (Kd.R_lower (base' := w.heap.size) ho (below_size HB6.out)); have M7 := am (M6.out.below hb); have N87 := am (blk_below N86.out hb); have N97 := am (blk_below N96.out hb); have HB7 := am (below_step HB6.out hb); have LT7 := am (Kd.R_lt ho); clear ho hb))
  have G86 := am (Array.getElem?_eq_some_iff.1 N86.out).1
  clear M6 N86 N96 HB6 t0 t1
  have t0 : w7.cell? ⟨g9, 0, none⟩ = some (.int .i64 a4_0) := (blk_cell N97.out 0).trans rfl
  have t1 : w7.cell? ⟨g9, 1, none⟩ = some (.int .i64 a4_1) := (blk_cell N97.out 1).trans rfl
  go_wp2
  have WA := am (show WayAt w gm g8 s.2 a3_0 a3_1 (w7.alloc (.cells #[.int .i64 a4_0, .int .i64 a4_1] 25)) w7.heap.size ⟨a4_0, a4_1⟩ v18 [⟨a4_0, a4_1⟩] from
   ⟨below_alloc HB7.out _, below_size HB7.out, by have := (Array.getElem?_eq_some_iff.1 N87.out).1; omega, M7.out.below (below_alloc (Below.refl _ _) _), blk_any N87.out, heap_newk _ _, Kd.R_mono (Kd.R_below (Kd.R_mono (Kd.R_bound RW7.out) (ok' := fun k_ => k_ ≠ g8 ∧ k_ ≠ w7.heap.size) (fun k_ hk => ⟨by have := G86.out; have := hk.1; omega, by have := hk.2.2.1; omega⟩)) (below_alloc (Below.refl _ _) _)) (fun _ hk => hk)⟩)
  clear RW7 M7 N87 N97 HB7 LT7 G86 t0 t1
  go_loopg [18, 19] k (fun kq v18 v19 wr => ∃ (gp : Nat) (p : P2) (way : List P2), v19 = .pointer (some ⟨gp, 0, none⟩) ∧ Aside0 (wayF s.2 a3_0 a3_1 kq p way = some wy) ∧ Aside0 (kq ≤ k) ∧ Aside0 (WayAt w gm g8 s.2 a3_0 a3_1 wr gp p v18 way))
  case atStart => exact ⟨_, _, _, rfl, AW, ⟨Nat.le_refl _⟩, WA⟩
  case round =>(
 clear AW WA
 obtain ⟨gp, p, way, rfl, AW, HK1, WA⟩ := hrel
 obtain ⟨Aw, cw, ew⟩ := Kd.R_slice WA.out.row
 subst ew
 cases gk with
 | zero => exact absurd AW.out (by simp [wayF])
 | succ k1 =>
  have H := AW.out
  clear AW
  unfold wayF at H
  have p0 : wr.cell? ⟨gp, 0, none⟩ = some (.int .i64 p.f0) := (blk_cell WA.out.at_ 0).trans rfl
  have p1 : wr.cell? ⟨gp, 1, none⟩ = some (.int .i64 p.f1) := (blk_cell WA.out.at_ 1).trans rfl
  have f0 : wr.cell? ⟨g8, 0, none⟩ = some (.int .i64 a3_0) := (blk_cell WA.out.box 0).trans rfl
  have f1 : wr.cell? ⟨g8, 1, none⟩ = some (.int .i64 a3_1) := (blk_cell WA.out.box 1).trans rfl
  by_cases ce : p.f0 = a3_0 ∧ p.f1 = a3_1
  {
 rw [if_pos ce] at H
 obtain rfl := Option.some.inj H
 clear H
 go_wp2_with fail
 refine (api_Point_25.calls k (fun k_ => k_ ≠ g8 ∧ k_ ≠ gp) (.slice Aw way.length cw) way rv w wr WA.out.bel WA.out.row AR.out).mono ?_
 rintro e w9 ⟨rfl, hrow, hb, _⟩
 have RW9 := am (Kd.R_mono hrow (ok' := fun _ => True) (fun _ _ => trivial))
 have HB9 := am hb
 have EL := am (Kd.R_reads' hrow).1
 clear hrow hb p0 p1 f0 f1 ce WA
 go_wp2
 go_ret3
 exact ⟨_, rfl, RW9.out, HB9.out⟩}
  rw [if_neg ce] at H
  obtain ⟨⟨hok, hl⟩, H2⟩ := law_some H
  have HOK2 := am hok
  have HL := am hl
  have H2 := am H2
  clear H hok hl
  have WG := am WA.out.base
  have GP8 := am (Ne.symm WA.out.ne)
  have fz0 := blk_frozen WA.out.at_ 0
  have fz1 := blk_frozen WA.out.at_ 1
  by_cases c0 : p.f0 = a3_0
  {
 have c1 : ¬ p.f1 = a3_1 := fun z => ce ⟨c0, z⟩
 clear ce
 have C0 := am c0
 go_upto_region 12 with (first | (at_lookup; refine MapIs.look rfl _ _ rfl rfl WA.out.map p HOK2.out (by show Value.agg _ = Value.agg _; rw [C0.out]) ?_; intro q eq; have EQ := am eq; clear eq))
 have eb := Kd.R_typed WA.out.row
 have GN := am (show gm ≠ gp from fun e => by obtain ⟨_, es, cl, hm, _⟩ := WA.out.map; rw [e, WA.out.at_] at hm; exact absurd hm (by simp))
 have GO := am WA.out.row.1
 have X1 := am (show WayAt w gm g8 s.2 a3_0 a3_1 ((wr.setCell ⟨gp, 0, none⟩ (.int .i64 q.f0)).setCell ⟨gp, 1, none⟩ (.int .i64 q.f1)) gp q (.slice Aw way.length cw) way from
  ⟨below_set (below_set WA.out.bel WG.out) WG.out, WG.out, Ne.symm GP8.out, (WA.out.map.far GN.out _).far GN.out _, blk_far (blk_far WA.out.box GP8.out _) GP8.out _, blk_put (cs := #[.int .i64 q.f0, .int .i64 p.f1]) (blk_put (cs := #[.int .i64 p.f0, .int .i64 p.f1]) WA.out.at_ 0 _ rfl) 1 _ rfl, Kd.R_far (Kd.R_far WA.out.row (fun k_ hk => hk.2) _) (fun k_ hk => hk.2) _⟩)
 generalize (wr.setCell ⟨gp, 0, none⟩ (.int .i64 q.f0)).setCell ⟨gp, 1, none⟩ (.int .i64 q.f1) = w8 at X1 ⊢
 clear eb WA p0 p1 f0 f1 fz0 fz1
 have q0 : w8.cell? ⟨gp, 0, none⟩ = some (.int .i64 q.f0) := (blk_cell X1.out.at_ 0).trans rfl
 have q1 : w8.cell? ⟨gp, 1, none⟩ = some (.int .i64 q.f1) := (blk_cell X1.out.at_ 1).trans rfl
 go_upto_region 13 with (first | ((with_reducible refine gate_builtin (b := .append) (xs := #[.tmp 55, .tmp 57]) rfl ?_); at_builtin; refine Kd.R_append k25 (w0 := w) w.heap.size rfl (.tmp 55) (.tmp 57) 23 25 (.agg #[(.int .i64 0), (.int .i64 0)]) 16 rfl Try.underlying23 info25 rfl (by decide) (by omega) (.slice Aw way.length cw) way q [.int .i64 q.f0, .int .i64 q.f1] (fun k_ => k_ ≠ g8 ∧ k_ ≠ gp) (fun _ => False) rfl rfl (k25_mkM _ _ _ q) (fun _ hk => hk.elim) (fun k_ hk => by have l1 := (Array.getElem?_eq_some_iff.1 X1.out.box).1; have l2 := (Array.getElem?_eq_some_iff.1 X1.out.at_).1; omega) X1.out.row X1.out.bel (below_size X1.out.bel) (by have := HL.out; omega) ?_; intro v10 w10 ho hb10 hg hat; have X2 := am (show WayAt w gm g8 s.2 a3_0 a3_1 w10 gp q v10 (way ++ [q]) from ⟨hb10, WG.out, Ne.symm GP8.out, X1.out.map.grown hg (fun e => by obtain ⟨_, es, cl, hm, _⟩ := X1.out.map; obtain ⟨cells, hc⟩ := Kd.R_typed X1.out.row gm e.symm; rw [hm] at hc; exact absurd hc (by simp)), blk_grown X1.out.box hg (fun e => (GO.out g8 e.symm).1 rfl), blk_grown X1.out.at_ hg (fun e => (GO.out gp e.symm).2 rfl), ho⟩); obtain ⟨Ao, co, eo⟩ := Kd.R_slice ho; subst eo; clear ho hb10 hg hat q0 q1))
 have q0 : w10.cell? ⟨gp, 0, none⟩ = some (.int .i64 q.f0) := (blk_cell X2.out.at_ 0).trans rfl
 have q1 : w10.cell? ⟨gp, 1, none⟩ = some (.int .i64 q.f1) := (blk_cell X2.out.at_ 1).trans rfl
 have X3 := am (show WayAt w gm g8 s.2 a3_0 a3_1 (w10.alloc (.cells #[.int .i64 q.f0, .int .i64 q.f1] 25)) w10.heap.size q (.slice Ao (way ++ [q]).length co) (way ++ [q]) from
  ⟨below_alloc X2.out.bel _, below_size X2.out.bel, by have := (Array.getElem?_eq_some_iff.1 X2.out.box).1; omega, X2.out.map.below (below_alloc (Below.refl _ _) _), blk_any X2.out.box, heap_newk _ _, Kd.R_mono (Kd.R_below (Kd.R_mono (Kd.R_bound X2.out.row) (ok' := fun k_ => k_ ≠ g8 ∧ k_ ≠ w10.heap.size) (fun k_ hk => ⟨hk.1.1, by have := hk.2.2.1; omega⟩)) (below_alloc (Below.refl _ _) _)) (fun _ hk => hk)⟩)
 have X4 : Aside0 (WayAt w gm g8 s.2 a3_0 a3_1 (w10.alloc (.cells #[.int .i64 q.f0, .int .i64 q.f1] 25)) w10.heap.size q (.slice Ao (way.length + 1) co) (way ++ [q])) := ⟨by have h_ := X3.out; rw [List.length_append] at h_; exact h_⟩
 have H3 : Aside0 (wayF s.2 a3_0 a3_1 k1 q (way ++ [q]) = some wy) := ⟨by rw [EQ.out]; exact H2.out⟩
 clear X1 X3 H2
 go_wp2
 go_roundg k1
 case measure => have := HK1.out; omega
 case rel => exact ⟨w10.heap.size, q, way ++ [q], rfl, H3, ⟨by have := HK1.out; omega⟩, X4⟩}
  clear ce
  go_upto_region 12 with (first | (at_lookup; refine MapIs.look rfl _ _ rfl rfl WA.out.map p HOK2.out rfl ?_; intro q eq; have EQ := am eq; clear eq))
  have eb := Kd.R_typed WA.out.row
  have GN := am (show gm ≠ gp from fun e => by obtain ⟨_, es, cl, hm, _⟩ := WA.out.map; rw [e, WA.out.at_] at hm; exact absurd hm (by simp))
  have GO := am WA.out.row.1
  have X1 := am (show WayAt w gm g8 s.2 a3_0 a3_1 ((wr.setCell ⟨gp, 0, none⟩ (.int .i64 q.f0)).setCell ⟨gp, 1, none⟩ (.int .i64 q.f1)) gp q (.slice Aw way.length cw) way from
   ⟨below_set (below_set WA.out.bel WG.out) WG.out, WG.out, Ne.symm GP8.out, (WA.out.map.far GN.out _).far GN.out _, blk_far (blk_far WA.out.box GP8.out _) GP8.out _, blk_put (cs := #[.int .i64 q.f0, .int .i64 p.f1]) (blk_put (cs := #[.int .i64 p.f0, .int .i64 p.f1]) WA.out.at_ 0 _ rfl) 1 _ rfl, Kd.R_far (Kd.R_far WA.out.row (fun k_ hk => hk.2) _) (fun k_ hk => hk.2) _⟩)
  generalize (wr.setCell ⟨gp, 0, none⟩ (.int .i64 q.f0)).setCell ⟨gp, 1, none⟩ (.int .i64 q.f1) = w8 at X1 ⊢
  clear eb WA p0 p1 f0 f1 fz0 fz1
  have q0 : w8.cell? ⟨gp, 0, none⟩ = some (.int .i64 q.f0) := (blk_cell X1.out.at_ 0).trans rfl
  have q1 : w8.cell? ⟨gp, 1, none⟩ = some (.int .i64 q.f1) := (blk_cell X1.out.at_ 1).trans rfl
  go_upto_region 13 with (first | ((with_reducible refine gate_builtin (b := .append) (xs := #[.tmp 55, .tmp 57]) rfl ?_); at_builtin; refine Kd.R_append k25 (w0 := w) w.heap.size rfl (.tmp 55) (.tmp 57) 23 25 (.agg #[(.int .i64 0), (.int .i64 0)]) 16 rfl Try.underlying23 info25 rfl (by decide) (by omega) (.slice Aw way.length cw) way q [.int .i64 q.f0, .int .i64 q.f1] (fun k_ => k_ ≠ g8 ∧ k_ ≠ gp) (fun _ => False) rfl rfl (k25_mkM _ _ _ q) (fun _ hk => hk.elim) (fun k_ hk => by have l1 := (Array.getElem?_eq_some_iff.1 X1.out.box).1; have l2 := (Array.getElem?_eq_some_iff.1 X1.out.at_).1; omega) X1.out.row X1.out.bel (below_size X1.out.bel) (by have := HL.out; omega) ?_; intro v10 w10 ho hb10 hg hat; have X2 := am (show WayAt w gm g8 s.2 a3_0 a3_1 w10 gp q v10 (way ++ [q]) from ⟨hb10, WG.out, Ne.symm GP8.out, X1.out.map.grown hg (fun e => by obtain ⟨_, es, cl, hm, _⟩ := X1.out.map; obtain ⟨cells, hc⟩ := Kd.R_typed X1.out.row gm e.symm; rw [hm] at hc; exact absurd hc (by simp)), blk_grown X1.out.box hg (fun e => (GO.out g8 e.symm).1 rfl), blk_grown X1.out.at_ hg (fun e => (GO.out gp e.symm).2 rfl), ho⟩); obtain ⟨Ao, co, eo⟩ := Kd.R_slice ho; subst eo; clear ho hb10 hg hat q0 q1))
  have q0 : w10.cell? ⟨gp, 0, none⟩ = some (.int .i64 q.f0) := (blk_cell X2.out.at_ 0).trans rfl
  have q1 : w10.cell? ⟨gp, 1, none⟩ = some (.int .i64 q.f1) := (blk_cell X2.out.at_ 1).trans rfl
  have X3 := am (show WayAt w gm g8 s.2 a3_0 a3_1 (w10.alloc (.cells #[.int .i64 q.f0, .int .i64 q.f1] 25)) w10.heap.size q (.slice Ao (way ++ [q]).length co) (way ++ [q]) from
   ⟨below_alloc X2.out.bel _, below_size X2.out.bel, by have := (Array.getElem?_eq_some_iff.1 X2.out.box).1; omega, X2.out.map.below (below_alloc (Below.refl _ _) _), blk_any X2.out.box, heap_newk _ _, Kd.R_mono (Kd.R_below (Kd.R_mono (Kd.R_bound X2.out.row) (ok' := fun k_ => k_ ≠ g8 ∧ k_ ≠ w10.heap.size) (fun k_ hk => ⟨hk.1.1, by have := hk.2.2.1; omega⟩)) (below_alloc (Below.refl _ _) _)) (fun _ hk => hk)⟩)
  have X4 : Aside0 (WayAt w gm g8 s.2 a3_0 a3_1 (w10.alloc (.cells #[.int .i64 q.f0, .int .i64 q.f1] 25)) w10.heap.size q (.slice Ao (way.length + 1) co) (way ++ [q])) := ⟨by have h_ := X3.out; rw [List.length_append] at h_; exact h_⟩
  have H3 : Aside0 (wayF s.2 a3_0 a3_1 k1 q (way ++ [q]) = some wy) := ⟨by rw [EQ.out]; exact H2.out⟩
  clear X1 X3 H2
  go_wp2
  go_roundg k1
  case measure => have := HK1.out; omega
  case rel => exact ⟨w10.heap.size, q, way ++ [q], rfl, H3, ⟨by have := HK1.out; omega⟩, X4⟩)}
 have H2 := HH.out
 rw [if_neg ce] at H2
 simp only [Option.some.injEq, Prod.mk.injEq] at H2
 obtain ⟨rfl, rfl, rfl⟩ := H2
 have c0' : (en == 0) = false := beq_eq_false_iff_ne.2 ce
 have c1' : (en != 0) = true := bne_iff_ne.2 ce
 clear HH ce
 go_wp2
 go_ret3
 exact ⟨_, rfl, Kd.R_nil _ _ _ _ _, HB4.out⟩
end Go.Proofs.Ytieffjkplaajdaa.SW

