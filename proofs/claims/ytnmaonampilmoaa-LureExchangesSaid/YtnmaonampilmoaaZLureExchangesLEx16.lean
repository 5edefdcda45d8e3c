/- Of the text LEx16, what the row of LureExchanges reaches. -/
import Derived.Test.YtnmaonampilmoaaZLureExchangesLEx0
import Derived.Test.YtnmaonampilmoaaZLureExchangesLEx5
import Derived.Test.YtnmaonampilmoaaZLureExchangesLEx8
import Derived.Shelf.SlicesE.DeleteFunc
import Derived.Laws.EntriesVeiled
namespace Go.Proofs.Ytnmaonampilmoaa.LE
open Go.RowKit Go.Proofs.YtnmaonampilmoaaW.PrintWords Go.Proofs.YtnmaonampilmoaaW.PrintLast Go.Proofs.YtnmaonampilmoaaW.PrintMore
attribute [local go_sem] max2_int min2_int max_two min_two max_three min_three max_four min_four   -- for this text's walks alone
set_option linter.unusedVariables false
set_option linter.unusedSimpArgs false

open Go.Shelf Go.Lib Go.Sort
/-- the numbers of slices.DeleteFunc's closure at this program -/
def del_ren : Go.Shelf.Ren := ⟨fun | 6 => 83 | 10 => 72 | n => n, fun | 0 => 0 | 3 => 3 | 4 => 4 | 22 => 22 | 23 => 3 | 25 => 60 | n => n, fun n => n⟩
theorem del_lays : SlLaysH.n10 Try.prog del_ren where
  mixed := by kernel_rfl
  f6 := ⟨Try.f83.name, by kernel_rfl, Try.func83.trans (congrArg some (by kernel_rfl))⟩
  f10 := ⟨Try.f72.name, by kernel_rfl, Try.func72.trans (congrArg some (by kernel_rfl))⟩
  t0 := Try.underlying0
  a0 := Try.isAgg0
  z0 := Try.sizeOf0
  v0 := Try.zeroValue0
  t3 := Try.underlying3
  a3 := Try.isAgg3
  z3 := Try.sizeOf3
  v3 := Try.zeroValue3
  t4 := Try.underlying4
  a4 := Try.isAgg4
  z4 := Try.sizeOf4
  v4 := Try.zeroValue4
  t22 := Try.underlying22
  a22 := Try.isAgg22
  z22 := Try.sizeOf22
  v22 := Try.zeroValue22
  a23 := Try.isAgg3
  z23 := Try.sizeOf3
  t25 := Try.underlying60
  a25 := Try.isAgg60
  z25 := Try.sizeOf60
  v25 := Try.zeroValue60
theorem getD_arr (xs : List Int) (j : Nat) (h : j < xs.length) : xs.toArray[j]! = rd xs (j : Int) := by
  rw [getElem!_pos xs.toArray j (by simpa using h)]
  simp [rd, List.getD_eq_getElem?_getD, List.getElem?_eq_getElem h]
theorem put_own {w : World} {base g cap n : Nat} {ws ys : List Int} (ho : w.ownsRow base 3 1 (.slice (some ⟨g, 0, none⟩) n cap) n (encs (Value.int .i64) ws)) (hy : ys.length = n) (q : Nat) : (putRow (Value.int .i64) (Sort.ahead w q) g 0 ys.toArray).ownsRow base 3 1 (.slice (some ⟨g, 0, none⟩) n cap) n (encs (Value.int .i64) ys) := by
  obtain ⟨h1, h2⟩ := ho
  refine ⟨by rw [encs_length]; omega, Or.inr ?_⟩
  rcases h2 with ⟨e, _⟩ | ⟨g', cap', cur, e, hb, hh, r1, r2, r3, r4⟩
  · injection e with e1; cases e1
  · injection e with e1 e2 e3
    injection e1 with e1
    injection e1 with e1
    subst e1 e3
    refine ⟨g, cap, putCells (Value.int .i64) 0 ys.toArray cur, rfl, hb, ?_, r1, r2, ?_, ?_⟩
    · show (w.heap.modify g (onCells (putCells (Value.int .i64) 0 ys.toArray)))[g]? = _
      rw [Array.getElem?_modify, if_pos rfl, hh]; rfl
    · show (cur.mapIdx _).size = _
      rw [Array.size_mapIdx]; exact r3
    · rw [Nat.mul_one]
      apply List.ext_getElem?
      intro j
      rw [List.getElem?_take]
      by_cases hj : j < n
      · rw [if_pos hj, Array.getElem?_toList, encs_get (d := 0) ys j (by omega)]
        show (cur.mapIdx _)[j]? = _
        have hc : j < cur.size := by omega
        rw [Array.getElem?_mapIdx, Array.getElem?_eq_getElem hc]
        show some (if 0 ≤ j ∧ j < 0 + ys.toArray.size then (Value.int .i64) ys.toArray[j - 0]! else _) = _
        rw [if_pos ⟨Nat.zero_le _, by simp; omega⟩, Nat.sub_zero, getD_arr ys j (by omega)]
        simp [rd]
      · rw [if_neg hj, List.getElem?_eq_none (by rw [encs_length]; omega)]
theorem put_below {base : Nat} {w0 w : World} (hB : Below base w0 w) {g : Nat} (hg : base ≤ g) (q : Nat) (d : Array Int) : Below base w0 (putRow (Value.int .i64) (Sort.ahead w q) g 0 d) := by
  refine ⟨hB.os, hB.tape, hB.output, ?_, fun j hj => ?_⟩
  · rw [size_putRow]; exact hB.size
  · show (w.heap.modify g (onCells (putCells (Value.int .i64) 0 d)))[j]? = _
    rw [Array.getElem?_modify, if_neg (by omega)]
    exact hB.block j hj
/-- slices.DeleteFunc over a row of the call's own -/
theorem delete_calls {w0 w : World} {base g cap : Nat} {xs : List Int} (p : Int → Bool) (fn : Nat) (cb : Array Value) (eg : ∀ args W, (callFunc fn args).run Try.prog W = .ok (.enter fn args) W)
    (hR : Kd.R (Kd.int .i64) 3 w base (fun k => k = g) (.slice (some ⟨g, 0, none⟩) xs.length cap) xs) (hB : Below base w0 w) (hl : xs.length ≤ 9223372036854775807) (hp : PredAt Try.prog fn cb (Value.int .i64) p w) (hpo : PredOver Try.prog fn cb (Value.int .i64) p g 0 xs.length w) :
    Calls Try.prog 72 #[.slice (some ⟨g, 0, none⟩) xs.length cap, .func (.func fn) #[] cb] w fun e w' => e = .returned (.slice (some ⟨g, 0, none⟩) (xs.filter fun x => !p x).length cap) ∧ Kd.R (Kd.int .i64) 3 w' base (fun k => k = g) (.slice (some ⟨g, 0, none⟩) (xs.filter fun x => !p x).length cap) (xs.filter fun x => !p x) ∧ Below base w0 w' := by
  have hH : Holds (Value.int .i64) w g 0 xs.toArray := fun j hj => by
    have hj' : j < xs.length := by simpa using hj
    obtain ⟨a, b⟩ := Kd.R_celln (0 : Int) hR (j : Int) (Int.natCast_nonneg j) (by omega)
    rw [Int.toNat_natCast] at a b
    rw [Nat.zero_add, getD_arr xs j hj']
    exact ⟨a, b⟩
  have hcap : xs.length ≤ cap := (Kd.R_reads' hR).2.1
  have K := AnyE.slices_DeleteFunc del_lays (Value.int .i64) (fun _ => rfl) p fn cb eg 0 Try.zeroValue3 g 0 cap xs.toArray w hp hpo hH hl hcap
  refine K.mono ?_
  rintro e w' ⟨rfl, q, rfl⟩
  have fl : (xs.filter fun x => !p x).length ≤ xs.length := List.length_filter_le ..
  have yl : ((xs.filter fun x => !p x) ++ List.replicate (xs.length - (xs.filter fun x => !p x).length) 0).length = xs.length := by rw [List.length_append, List.length_replicate]; omega
  have ow := put_own (ys := (xs.filter fun x => !p x) ++ List.replicate (xs.length - (xs.filter fun x => !p x).length) 0) (Kd.own_of_R hR) yl q
  have R2 : Kd.R (Kd.int .i64) 3 (putRow (Value.int .i64) (Sort.ahead w q) g 0 ((xs.filter fun x => !p x) ++ List.replicate (xs.length - (xs.filter fun x => !p x).length) 0).toArray) base (fun k => k = g) (.slice (some ⟨g, 0, none⟩) xs.length cap) ((xs.filter fun x => !p x) ++ List.replicate (xs.length - (xs.filter fun x => !p x).length) 0) := Kd.R_of_own (by rw [yl]; exact ow) (fun k hk => by cases hk; rfl)
  have R3 := Kd.R_take (m := (xs.filter fun x => !p x).length) R2 (by omega)
  rw [List.take_left] at R3
  exact ⟨rfl, R3, put_below hB (Kd.R_base hR g rfl) q _⟩
set_option maxHeartbeats 4000000 in
set_option maxRecDepth 100000 in
/-- slices.DeleteFunc over a nil slice -/
theorem delete_nil (fn : Nat) (cb : Array Value) (eg : ∀ args W, (callFunc fn args).run Try.prog W = .ok (.enter fn args) W) (w : World) :
    Calls Try.prog 72 #[.slice none 0 0, .func (.func fn) #[] cb] w fun e w' => e = .returned (.slice none 0 0) ∧ Below w.heap.size w w' := by
  have K := IndexFunc_int fn cb eg (fun _ => false) w [] (fun x W hx _ => absurd hx List.not_mem_nil) none 0 (Kd.R_reads' (Kd.R_nil (Kd.int .i64) 3 w 0 (fun _ => True))).2.2 (Nat.le_refl _)
  have K2 : Calls Try.prog 83 #[.slice none 0 0, .func (.func fn) #[] cb] w fun e w' => e = .returned (.int .i64 (-1)) ∧ Below w.heap.size w w' := K
  have HK := Aside0.mk K2
  clear K K2
  go_enter Try.func72, Try.ntmps72
  go_wp2_with fail
  refine HK.out.mono ?_
  rintro e w1 ⟨rfl, hb⟩
  go_wp2
  go_ret
  exact ⟨rfl, hb⟩
theorem heap_newk (w : World) (o : Obj) : (w.alloc o).heap[w.heap.size]? = some o := by
  show (w.heap.push o)[w.heap.size]? = some o
  exact Array.getElem?_push_size
set_option maxHeartbeats 4000000 in
set_option maxRecDepth 100000 in
theorem clone_none (n c0 : Nat) (w : World) :
    Calls Try.prog 73 #[.slice none n c0] w fun e w' => e = .returned (.slice none 0 0) ∧ Below w.heap.size w w' := by
  have heq_ : ∀ (n_ c_ : Nat) (W_ : World), Sem.run Try.prog (binOp .eql 22 (.slice none n_ c_) (.slice none 0 0)) W_ = .ok (.bool true) W_ := fun n_ c_ W_ => Lib.run_eql_slice_nil W_ 22 3 none n_ c_ 0 0 Try.underlying22
  have hb := Below.refl w.heap.size w
  go_enter Try.func73, Try.ntmps73
  go_wp2
  go_ret
  exact ⟨rfl, by first | exact hb | exact below_drew1 hb⟩
/-- slices.Clone of whatever row is read -/
theorem clone_any (A : Option Addr) (c0 : Nat) (l0 : List Int) (w : World) (hr0 : Kd.C (Kd.int .i64) w A l0.length l0) (hc0 : l0.length ≤ c0) (hl : l0.length < 17592186044416) :
    Calls Try.prog 73 #[.slice A l0.length c0] w fun e w' => ∃ v0_ : Value, e = .returned (v0_) ∧ Kd.R (Kd.int .i64) 3 w' w.heap.size (fun _ => True) v0_ l0 ∧ Below w.heap.size w w' := by
  cases A with
  | some ad => exact clone_calls ad c0 l0 w hr0 hc0 hl
  | none =>
    have e : l0 = [] := by
      cases l0 with
      | nil => rfl
      | cons a t =>
        obtain ⟨ad, e, _⟩ := Kd.at_int hr0 0 (Int.le_refl 0) (by simp)
        cases e
    subst e
    refine (clone_none _ c0 w).mono ?_
    rintro e w' ⟨rfl, hb⟩
    exact ⟨_, rfl, Kd.R_nil _ _ _ _ _, hb⟩
theorem sort_heap (w : World) (g n : Nat) (dk : Array Int) (os : Array Obj) (k : Nat) (h : k ≠ g) (hk : k < w.heap.size) : (sortWorld (Value.int .i64) w g 0 n dk os).heap[k]? = w.heap[k]? := by
  show ((w.heap.modify g (onCells (putCells (Value.int .i64) 0 dk))) ++ os)[k]? = _
  rw [Array.getElem?_append_left (by rw [Array.size_modify]; exact hk), Array.getElem?_modify, if_neg (Ne.symm h)]
/-- what is left of a row by slices.DeleteFunc with a test that reads a boxed row -/
theorem strike_calls (fn b : Nat) (eg : ∀ args W, (callFunc fn args).run Try.prog W = .ok (.enter fn args) W) (An : Option Addr) (cn : Nat) (nx : List Int)
    (HW : ∀ (W : World) (i : Int), W.cell? ⟨b, 0, none⟩ = some (.slice An nx.length cn) → Kd.C (Kd.int .i64) W An nx.length nx → FnGives Try.prog fn #[.pointer (some ⟨b, 0, none⟩)] #[.int .i64 i] (.bool (!decide (i ∈ nx))) W)
    {W W1 : World} {v : Value} {set : List Int} {bn : Nat} (hv : Kd.R (Kd.int .i64) 3 W1 W.heap.size (fun _ => True) v set) (hb : Below W.heap.size W W1) (hbx : W.cell? ⟨b, 0, none⟩ = some (.slice An nx.length cn)) (hlt : b < W.heap.size) (hn : Kd.R (Kd.int .i64) 3 W bn (fun _ => True) (.slice An nx.length cn) nx) (hl : set.length < 17592186044416) :
    Calls Try.prog 72 #[v, .func (.func fn) #[] #[.pointer (some ⟨b, 0, none⟩)]] W1 fun e w' => ∃ vk : Value, e = .returned vk ∧ Kd.R (Kd.int .i64) 3 w' W.heap.size (fun _ => True) vk (set.filter fun x => decide (x ∈ nx)) ∧ Below W.heap.size W w' := by
  have fe : (set.filter fun x => !(!decide (x ∈ nx))) = set.filter fun x => decide (x ∈ nx) := by simp
  have ho := Kd.own_of_R hv
  rcases ho.2 with ⟨rfl, hn0⟩ | ⟨g, cap, cur, rfl, hg, hh, _⟩
  · have e : set = [] := List.eq_nil_of_length_eq_zero hn0
    subst e
    refine (delete_nil fn _ eg W1).mono ?_
    rintro e w' ⟨rfl, h2⟩
    exact ⟨_, rfl, Kd.R_nil _ _ _ _ _, below_step hb h2⟩
  · have hn1 : Kd.R (Kd.int .i64) 3 W1 bn (fun k => k < W.heap.size) (.slice An nx.length cn) nx := Kd.R_below (Kd.R_mono (Kd.R_bound hn) (fun k hk => hk.2.2.1)) hb
    have hbx1 : W1.cell? ⟨b, 0, none⟩ = some (.slice An nx.length cn) := pw_cell_below hb hbx
    have hR : Kd.R (Kd.int .i64) 3 W1 W.heap.size (fun k => k = g) (.slice (some ⟨g, 0, none⟩) set.length cap) set := Kd.R_of_own ho (fun k hk => by cases hk; rfl)
    refine (delete_calls (w0 := W) (fun x => !decide (x ∈ nx)) fn _ eg hR hb (by omega) (fun W' x hW => ?_) (fun n os dk x hs => ?_)).mono ?_
    · exact HW W' x (pw_cell_below hW hbx1) (Kd.R_reads' (Kd.R_below hn1 hW)).2.2
    · have hsz := hb.size
      refine HW _ x ((World.cell?_of_block (sort_heap W1 g n dk os b (by omega) (by omega))).trans hbx1) (Kd.R_reads' (Kd.R_step hn1 (fun k hk hk2 => sort_heap W1 g n dk os k (by omega) hk2))).2.2
    · rintro e w' ⟨rfl, h1, h2⟩
      rw [fe] at h1 ⊢
      exact ⟨_, rfl, Kd.R_mono h1 (fun _ _ => trivial), h2⟩

end Go.Proofs.Ytnmaonampilmoaa.LE

