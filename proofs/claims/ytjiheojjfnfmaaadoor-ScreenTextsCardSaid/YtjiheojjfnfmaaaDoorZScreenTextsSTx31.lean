/- Of the text STx31, what the row of ScreenTexts reaches. -/
import Derived.Test.YtjiheojjfnfmaaaDoorZScreenTextsSTx0
import Derived.Test.YtjiheojjfnfmaaaDoorZScreenTextsSTx15
import Derived.Test.YtjiheojjfnfmaaaDoorZScreenTextsSTx17
import Derived.Test.YtjiheojjfnfmaaaDoorZScreenTextsSTx21
import Derived.Test.YtjiheojjfnfmaaaDoorZScreenTextsSTx27
import Derived.Test.YtjiheojjfnfmaaaDoorZScreenTextsSTx30
import Derived.RangeFuncNested
import Derived.RangeFuncBound
import Derived.RangeFuncCalls
import Derived.RangeFuncLeaves
import Derived.Shelf.RegionOpen
import Derived.OwnWalkIn
import Derived.TacticsInMore
import Derived.LoopNIn
import Derived.LoopIn
import Derived.StillTailTactics
namespace Go.Proofs.YtjiheojjfnfmaaaDoor.ST
open Go.RowKit Go.Proofs.YtjiheojjfnfmaaaDoorW.PrintWords Go.Proofs.YtjiheojjfnfmaaaDoorW.PrintLast Go.Proofs.YtjiheojjfnfmaaaDoorW.PrintMore
attribute [local go_sem] max2_int min2_int max_two min_two max_three min_three max_four min_four   -- for this text's walks alone
set_option linter.unusedVariables false
set_option linter.unusedSimpArgs false

set_option linter.unusedVariables false
section
attribute [local go_sem] Oper.semAt_some
/-- the lines of a text, each with its end -/
def linesF : Nat → List UInt8 → List ByteArray
  | 0, _ => []
  | _ + 1, [] => []
  | f + 1, c :: l => if 0 ≤ Lib.indexByte (c :: l) 10 then ⟨((c :: l).take ((Lib.indexByte (c :: l) 10).toNat + 1)).toArray⟩ :: linesF f ((c :: l).drop ((Lib.indexByte (c :: l) 10).toNat + 1)) else [⟨(c :: l).toArray⟩]
theorem linesF_any : ∀ (f g : Nat) (l : List UInt8), l.length < f → l.length < g → linesF f l = linesF g l
  | 0, _, l, h, _ => by omega
  | _ + 1, 0, l, _, h => by omega
  | f + 1, g + 1, [], _, _ => rfl
  | f + 1, g + 1, c :: l, h, k => by
    unfold linesF
    split
    · rw [linesF_any f g _ (by rw [List.length_drop, List.length_cons] at *; omega) (by rw [List.length_drop, List.length_cons] at *; omega)]
    · rfl
def linesL (l : List UInt8) : List ByteArray := linesF (l.length + 1) l
theorem linesL_nil : linesL [] = [] := rfl
theorem linesL_at (c : UInt8) (l : List UInt8) (m : Nat) (h : Lib.indexByte (c :: l) 10 = m) : linesL (c :: l) = ⟨((c :: l).take (m + 1)).toArray⟩ :: linesL ((c :: l).drop (m + 1)) := by
  unfold linesL
  rw [List.length_cons, linesF, if_pos (by omega), h, show ((m : Nat) : Int).toNat = m from rfl]
  rw [linesF_any (l.length + 1) (((c :: l).drop (m + 1)).length + 1) _ (by rw [List.length_drop, List.length_cons]; omega) (by omega)]
theorem linesL_no (c : UInt8) (l : List UInt8) (h : ¬ 0 ≤ Lib.indexByte (c :: l) 10) : linesL (c :: l) = [⟨(c :: l).toArray⟩] := by
  unfold linesL
  rw [List.length_cons, linesF, if_neg h]
theorem ext_take (l : List UInt8) (j : Nat) : (⟨l.toArray⟩ : ByteArray).extract 0 j = ⟨(l.take j).toArray⟩ := by
  rw [show l.take j = (((⟨l.toArray⟩ : ByteArray).extract 0 j).data.toList) by simp [ByteArray.extract, ByteArray.copySlice]]
theorem ext_drop (l : List UInt8) (i : Nat) : (⟨l.toArray⟩ : ByteArray).extract i l.length = ⟨(l.drop i).toArray⟩ := by
  rw [show l.drop i = (((⟨l.toArray⟩ : ByteArray).extract i l.length).data.toList) by simp [ByteArray.extract, ByteArray.copySlice]; rw [List.take_of_length_le (by rw [List.length_drop]; omega)]]
theorem Lines_calls (s : ByteArray) (w : World) :
    Calls Tryd.prog 26 #[.string s] w fun e w' => e = .returned (.func (.func 44) #[] #[.pointer (some ⟨w.heap.size, 0, none⟩)]) ∧ w' = w.alloc (.cells #[.string s] 9) := by
  go_enter Tryd.func26, Tryd.ntmps26
  go_wp2
  go_ret
  exact ⟨rfl, rfl⟩
theorem IB_eq (l : List UInt8) : strings_IndexByte.f ⟨l.toArray⟩ 10 = some (Lib.indexByte l 10) := rfl
set_option maxRecDepth 100000 in
set_option maxHeartbeats 4000000 in
theorem lines1_in (n : Nat) (hn : 3 ≤ n) (l Bs : Nat) (J Jx : List ByteArray → World → Prop) (t0 : List UInt8) (ht : t0.length ≤ 1000000)
    (hJd : ∀ s A B, J s A → Drawn0 A B → J s B) (hJs : ∀ s A v, J s A → J s (A.setCell ⟨Bs, 0, none⟩ v))
    (hY : ∀ pre x W, pre ++ [x] <+: linesL t0 → J pre W → YieldAt Fence.wide (n - 1) Tryd.prog l #[.string x] W fun e W' =>
      (e = .returned (.bool true) ∧ J (pre ++ [x]) W' ∧ W'.heap[Bs]? = W.heap[Bs]?) ∨ (e = .returned (.bool false) ∧ Jx (pre ++ [x]) W'))
    (W : World) (hBs : W.heap[Bs]? = some (.cells #[.string ⟨t0.toArray⟩] 9 (0, 0))) (h0 : J [] W) :
    CallsIn Fence.wide n Tryd.prog 44 #[.func (.yield l) #[] #[], .pointer (some ⟨Bs, 0, none⟩)] W fun e W' => (∃ v, e = .returned v) ∧ (J (linesL t0) W' ∨ (∃ pre, pre <+: linesL t0 ∧ Jx pre W')) := by
  refine callsIn_of_wp Tryd.func44 rfl trivial ?_ rfl
  simp only [Tryd.ntmps44, List.size_toArray, List.length_cons, List.length_nil, Nat.reduceAdd, Nat.reduceSub, Array.replicate_succ, Array.replicate_zero, List.push_toArray, List.append_toArray, List.nil_append, List.cons_append]
  gi_wp2
  gi_loopw [3] (fun p wr => ∃ (pre : List ByteArray) (rest : List UInt8), wr.heap[Bs]? = some (.cells #[.string ⟨rest.toArray⟩] 9 (0, 0)) ∧ J pre wr ∧ rest.length ≤ t0.length ∧ pre ++ linesL rest = linesL t0)
    (fun p wr => match wr.cell? ⟨Bs, 0, none⟩ with | some (.string s) => s.size | _ => 0)
  case atStart => exact ⟨[], t0, hBs, h0, Nat.le_refl _, rfl⟩
  case round =>
    obtain ⟨pre, rest, hb, hJ, hl, he⟩ := hrel
    have hc : wr.cell? ⟨Bs, 0, none⟩ = some (.string ⟨rest.toArray⟩) := (blk_cell hb 0).trans rfl
    have hf := blk_frozen hb 0
    cases rest with
    | nil =>
      gi_wp2
      go_end0
      rw [linesL_nil, List.append_nil] at he
      exact ⟨⟨_, rfl⟩, .inl (he ▸ hJ)⟩
    | cons c cs =>
      obtain ⟨i, hi⟩ : ∃ i, Lib.indexByte (c :: cs) 10 = i := ⟨_, rfl⟩
      have hIB : strings_IndexByte.f ⟨(c :: cs).toArray⟩ 10 = some i := by rw [IB_eq, hi]
      have hge : -1 ≤ i := by rw [← hi]; exact Lib.indexByte_ge _ _
      have hF45 : Fence.wide.fn 45 := trivial
      have h1n : 1 ≤ n := by omega
      have hcl : cs.length + 1 ≤ 1000000 := by simp at hl; omega
      have DR : ∀ w2, Drawn0 wr w2 → w2.heap[Bs]? = some (.cells #[.string ⟨(c :: cs).toArray⟩] 9 (0, 0)) ∧ J pre w2 := fun w2 hd => ⟨by obtain ⟨nd, rfl⟩ := hd; exact hb, hJd _ _ _ hJ hd⟩
      have HC := Aside0.mk hc
      have HDR := Aside0.mk DR
      have HHE := Aside0.mk he
      have HY := Aside0.mk hY
      clear DR he hY hb hJ hf
      by_cases h : 0 ≤ i
      · obtain ⟨m, rfl⟩ := Int.eq_ofNat_of_zero_le h
        obtain ⟨hm1, _⟩ := Lib.indexByte_some hi
        have hm : m < cs.length + 1 := by
          rcases Nat.lt_or_ge m (c :: cs).length with q | q
          · exact q
          · rw [List.getElem?_eq_none q] at hm1; cases hm1
        clear hm1
        gi_wp2_with (gi_at_call 45; refine (callsIn_wide.2 (strings_IndexByte.calls _ _ _ _ hIB)).mono ?_; rintro e w2 ⟨rfl, hd⟩; obtain ⟨hb2, hJ2⟩ := HDR.out _ hd; clear hd hc)
        refine wpIn_wide.2 ?_
        have HB2 := Aside0.mk hb2
        have HJ2 := Aside0.mk hJ2
        have hc2 : w2.cell? ⟨Bs, 0, none⟩ = some (.string ⟨(c :: cs).toArray⟩) := (blk_cell hb2 0).trans rfl
        have hf2 := blk_frozen hb2 0
        clear hb2 hJ2
        have hw1 : (IntKind.i64.wrap ((m : Int) + 1)) = (m : Int) + 1 := by rw [IntKind.wrap_i64]; omega
        have hs1 : (m : Int) + 1 ≤ (cs.length : Int) + 1 := by omega
        have hs0 : 0 ≤ (m : Int) + 1 := by omega
        go_still_tail 9, (by kernel_rfl)
        change wpList _ _ _ _ _ w2.drew
        obtain ⟨w3, hw3⟩ : ∃ w3, w3 = (w2.setCell ⟨Bs, 0, none⟩ (.string ((⟨(c :: cs).toArray⟩ : ByteArray).extract (m + 1) (cs.length + 1)))).drew := ⟨_, rfl⟩
        have hb3 : w3.heap[Bs]? = some (.cells #[.string ((⟨(c :: cs).toArray⟩ : ByteArray).extract (m + 1) (cs.length + 1))] 9 (0, 0)) := by
          rw [hw3]; exact blk_drew (blk_put (cs := #[.string ⟨(c :: cs).toArray⟩]) HB2.out 0 _ rfl)
        have hJ3 : J pre w3 := by rw [hw3]; exact hJd _ _ _ (hJs _ _ _ HJ2.out) ⟨1, rfl⟩
        have hpre : pre ++ [(⟨(c :: cs).toArray⟩ : ByteArray).extract 0 (m + 1)] <+: linesL t0 := ⟨linesL ((c :: cs).drop (m + 1)), by rw [ext_take, List.append_assoc, List.singleton_append, ← linesL_at c cs m hi]; exact HHE.out⟩
        obtain ⟨fn, tmps, assign, body, hy, hR⟩ := HY.out pre ((⟨(c :: cs).toArray⟩ : ByteArray).extract 0 (m + 1)) w3 hpre hJ3
        have HP := Aside0.mk hpre
        clear hpre
        have HR := Aside0.mk hR
        clear hR hJ3
        have HB3 := Aside0.mk hb3
        clear hb3
        go_wp2
        rw [← hw3]
        clear hw3 hc2 hf2
        gi_wp2
        refine HR.out.mono ?_
        rintro e W3 (⟨rfl, hJ4, hk4⟩ | ⟨rfl, hJx⟩)
        · have hb4 := hk4.trans HB3.out
          rw [show cs.length + 1 = (c :: cs).length from rfl, ext_drop] at hb4
          rw [ext_take] at hJ4
          have HB4 := Aside0.mk hb4
          have HJ4 := Aside0.mk hJ4
          clear hb4 hJ4 hk4
          gi_wp2
          go_roundw
          case rel => exact ⟨pre ++ [⟨((c :: cs).take (m + 1)).toArray⟩], (c :: cs).drop (m + 1), HB4.out, HJ4.out, by rw [List.length_drop]; omega, by rw [List.append_assoc, List.singleton_append, ← linesL_at c cs m hi]; exact HHE.out⟩
          case measure =>
            have e4 : W3.cell? ⟨Bs, 0, none⟩ = some (.string ⟨((c :: cs).drop (m + 1)).toArray⟩) := (blk_cell HB4.out 0).trans rfl
            have e0 := HC.out
            simp [e4, e0, ByteArray.size] <;> omega
        · gi_wp2
          refine bodyPost_ret (results_none rfl _ _ _) rfl ?_
          exact ⟨⟨_, rfl⟩, .inr ⟨_, HP.out, hJx⟩⟩
      · have HP := Aside0.mk (show pre ++ [(⟨(c :: cs).toArray⟩ : ByteArray)] <+: linesL t0 from ⟨[], by rw [List.append_nil, ← linesL_no c cs (by rw [hi]; omega)]; exact HHE.out⟩)
        gi_wp2_with (gi_at_call 45; refine (callsIn_wide.2 (strings_IndexByte.calls _ _ _ _ hIB)).mono ?_; rintro e w2 ⟨rfl, hd⟩; obtain ⟨hb2, hJ2⟩ := HDR.out _ hd; clear hd hc; have HB2 := Aside0.mk hb2; have HJ2 := Aside0.mk hJ2; have hc2 : w2.cell? ⟨Bs, 0, none⟩ = some (.string ⟨(c :: cs).toArray⟩) := (blk_cell hb2 0).trans rfl; have hf2 := blk_frozen hb2 0; obtain ⟨fn, tmps, assign, body, hy, hR⟩ := HY.out pre (⟨(c :: cs).toArray⟩ : ByteArray) (w2.setCell ⟨Bs, 0, none⟩ (.string ⟨#[]⟩)) HP.out (hJs _ _ _ hJ2); have HR := Aside0.mk hR; clear hb2 hJ2 hR)
        refine HR.out.mono ?_
        rintro e W3 (⟨rfl, hJ4, hk4⟩ | ⟨rfl, hJx⟩)
        · have hb4 := hk4.trans (blk_put (cs := #[.string ⟨(c :: cs).toArray⟩]) HB2.out 0 (.string ⟨#[]⟩) rfl)
          have HB4 := Aside0.mk (show W3.heap[Bs]? = some (.cells #[.string ⟨([] : List UInt8).toArray⟩] 9 (0, 0)) from hb4)
          have HJ4 := Aside0.mk hJ4
          clear hb4 hJ4 hk4 hc2 hf2
          gi_wp2
          go_roundw
          case rel => exact ⟨pre ++ [⟨(c :: cs).toArray⟩], [], HB4.out, HJ4.out, Nat.zero_le _, by rw [linesL_nil, List.append_nil, ← linesL_no c cs (by rw [hi]; omega)]; exact HHE.out⟩
          case measure =>
            have e4 : W3.cell? ⟨Bs, 0, none⟩ = some (.string ⟨([] : List UInt8).toArray⟩) := (blk_cell HB4.out 0).trans rfl
            have e0 := HC.out
            simp [e4, e0, ByteArray.size] <;> omega
        · gi_wp2
          refine bodyPost_ret (results_none rfl _ _ _) rfl ?_
          exact ⟨⟨_, rfl⟩, .inr ⟨_, HP.out, hJx⟩⟩
theorem set_far {A : World} {B k : Nat} {v : Value} {o : Obj} (h : A.heap[k]? = some o) (hne : k ≠ B) : (A.setCell ⟨B, 0, none⟩ v).heap[k]? = some o :=
  ((grownBy_setCell' A B v).block k (Array.getElem?_eq_some_iff.1 h).1 (fun e => hne (by cases e; rfl))).trans h
/-- how a round may be left -/
def roundLeft (D Bs : Nat) (I : List ByteArray → World → Prop) (Ix : List ByteArray → World → Prop) (xs : List ByteArray) (W : World) : Exit → Act → World → Prop
  | .normal, _, W' => I xs W' ∧ W'.heap[Bs]? = W.heap[Bs]? ∧ W'.heap[D]? = W.heap[D]? ∧ W'.heap[D + 1]? = W.heap[D + 1]?
  | .ret, _, W' => Ix xs W' ∧ W'.heap[D]? = W.heap[D]? ∧ W'.heap[D + 1]? = W.heap[D + 1]?
  | _, _, _ => False
set_option maxRecDepth 100000 in
theorem rangeLines {g : Operand} {p : Tmp} {assign body : Code} {Q : Exit → Act → World → Prop} {a : Act} {w : World} (n : Nat) (hn : 6 ≤ n) (Bs : Nat) (t0 : List UInt8) (ht : t0.length ≤ 1000000)
    (hg : a.eval g = .func (.func 44) #[] #[.pointer (some ⟨Bs, 0, none⟩)]) (hBs : w.heap[Bs]? = some (.cells #[.string ⟨t0.toArray⟩] 9 (0, 0)))
    (I Ix : List ByteArray → World → Prop) (hId : ∀ s A B, I s A → Drawn0 A B → I s B) (hIs : ∀ s A v, I s A → I s (A.setCell ⟨Bs, 0, none⟩ v))
    (hIn : ∀ s A o, o.isCells = false → I s A → I s (A.alloc o)) (hIp : ∀ s A k o, o.isCells = false → w.heap.size ≤ k → k < w.heap.size + 2 → I s A → I s (A.putObj k o)) (hXp : ∀ s A k o, w.heap.size ≤ k → k < w.heap.size + 2 → Ix s A → Ix s (A.putObj k o))
    (h0 : I [] w) (a₁ : ByteArray → Act)
    (hassign : ∀ l x W (K : Act → World → Prop), K (a₁ x) W → assign.wpIn (Fence.wide.inRound l) (n - 1 - 1) Tryd.prog (Exit.then K (fun _ _ _ => False)) { tmps := a.tmps.setIfInBounds p (.string x), defers := [] } W)
    (hbody : ∀ l pre x W, w.heap.size + 2 ≤ W.heap.size → pre ++ [x] <+: linesL t0 → I pre W → body.wpIn (Fence.wide.inRound l) (n - 1 - 1) Tryd.prog (roundLeft w.heap.size Bs I Ix (pre ++ [x]) W) (a₁ x) W)
    (hdone : ∀ W, I (linesL t0) W → W.heap[w.heap.size]? = some (.deferred (some [])) → Q .normal { a with defers := { target := .collected w.heap.size, args := #[] } :: a.defers } W)
    (hstop : ∀ pre W, pre <+: linesL t0 → Ix pre W → W.heap[w.heap.size]? = some (.deferred (some [])) → Code.ret.wpIn Fence.wide n Tryd.prog Q { a with defers := { target := .collected w.heap.size, args := #[] } :: a.defers } W) :
    (Code.rangeFunc g #[p] assign body).wpIn Fence.wide n Tryd.prog Q a w := by
  have hlB : Bs < w.heap.size := (Array.getElem?_eq_some_iff.1 hBs).1
  refine wpIn_rangeFunc ?_
  intro fn hfn
  rw [show Fence.wide.round = none from rfl]
  obtain ⟨rec, hrec⟩ : ∃ rec : LoopState → Option Code → Loop, rec = fun st pe => { state := st, pending := pe, fn, tmps := a.tmps, params := #[p], assign, body, defers := w.heap.size } := ⟨_, rfl⟩
  obtain ⟨W1, hW1⟩ : ∃ W1, (w.alloc (.deferred (some []))).alloc (.loop (rec .ready none)) = W1 := ⟨_, rfl⟩
  have hL1 : W1.heap[w.heap.size + 1]? = some (.loop (rec .ready none)) := by
    have := World.alloc_heap_new (w.alloc (.deferred (some []))) (.loop (rec .ready none))
    rw [World.size_alloc, hW1] at this; exact this
  have hK1 : W1.heap[w.heap.size]? = some (.deferred (some [])) := by
    rw [← hW1]; exact (Below.heap_alloc _ _ _ (by simp)).trans (World.alloc_heap_new w _)
  have hB1 : W1.heap[Bs]? = some (.cells #[.string ⟨t0.toArray⟩] 9 (0, 0)) := by
    rw [← hW1]; exact (Below.heap_alloc _ _ _ (by simp; omega)).trans ((Below.heap_alloc _ _ _ hlB).trans hBs)
  have hI1 : I [] W1 := by rw [← hW1]; exact hIn _ _ _ rfl (hIn _ _ _ rfl h0)
  refine ⟨w.heap.size + 1, [{ target := .collected w.heap.size, args := #[] }], W1, { target := .fn (.func 44) #[.pointer (some ⟨Bs, 0, none⟩)], args := #[.func (.yield (w.heap.size + 1)) #[] #[]] }, W1, 44,
    #[.func (.yield (w.heap.size + 1)) #[] #[]] ++ #[.pointer (some ⟨Bs, 0, none⟩)], W1, ?_, ?_, ?_, ?_, fun _ => by omega, ?_⟩
  · rw [← hW1, hrec]; exact run_enterLoop_outer _ _ _ _ _
  · simp only [resolve, hg]
    simp [go_sem]
  · intro f' _; trivial
  · simp [invoke, go_sem, enters_of (P := Tryd.prog) Tryd.func44 (by kernel_rfl) rfl]
  refine (lines1_in (n - 1) (by omega) (w.heap.size + 1) Bs
    (fun pre W => I pre W ∧ W.heap[w.heap.size + 1]? = some (.loop (rec .ready none)) ∧ W.heap[w.heap.size]? = some (.deferred (some [])))
    (fun s W => Ix s W ∧ W.heap[w.heap.size + 1]? = some (.loop (rec .done (some .ret))) ∧ W.heap[w.heap.size]? = some (.deferred (some []))) t0 ht
    (fun s A B hs hd => ⟨hId _ _ _ hs.1 hd, by obtain ⟨k, rfl⟩ := hd; exact hs.2.1, by obtain ⟨k, rfl⟩ := hd; exact hs.2.2⟩)
    (fun s A v hs => ⟨hIs _ _ _ hs.1, set_far hs.2.1 (by omega), set_far hs.2.2 (by omega)⟩) ?_ W1 hB1 ⟨hI1, hL1, hK1⟩).mono ?_
  · rintro pre x W hpre ⟨hi, hl, hk⟩
    have hlt : w.heap.size + 1 < W.heap.size := (Array.getElem?_eq_some_iff.1 hl).1
    have hy := run_yield (P := Tryd.prog) (args := #[.string x]) hl (by rw [hrec]; rfl)
    have hy2 : (Instr.yield (w.heap.size + 1) #[.string x]).run Tryd.prog W = .ok (.round (w.heap.size + 1) fn (a.tmps.setIfInBounds p (.string x)) assign body) W := by rw [hrec] at hy; simpa using hy
    refine ⟨fn, _, assign, body, hy2, roundIn_of_wpIn hfn (hassign (w.heap.size + 1) x W _ ?_)⟩
    refine ⟨_, run_beginRound hl (by rw [hrec]), ?_⟩
    have hl2 : (W.putObj (w.heap.size + 1) (.loop { rec .ready none with state := .busy })).heap[w.heap.size + 1]? = some (.loop { rec .ready none with state := .busy }) := World.putObj_heap_same hlt
    have hk2 : (W.putObj (w.heap.size + 1) (.loop { rec .ready none with state := .busy })).heap[w.heap.size]? = some (.deferred (some [])) := (World.putObj_heap_other (by omega)).trans hk
    have hb2 : (W.putObj (w.heap.size + 1) (.loop { rec .ready none with state := .busy })).heap[Bs]? = W.heap[Bs]? := World.putObj_heap_other (by omega)
    refine wpIn_mono (hbody _ pre x _ (by rw [World.putObj_size]; omega) hpre (hIp _ _ _ _ rfl (by omega) (by omega) hi)) ?_
    have fin : ∀ (jump : Option Code) (W3 : World), W3.heap[w.heap.size + 1]? = some (.loop { rec .ready none with state := .busy }) →
        (Instr.endRound (w.heap.size + 1) jump).run Tryd.prog W3 = .ok (.bool jump.isNone) (W3.putObj (w.heap.size + 1) (.loop (rec (if jump.isNone then .ready else .done) jump))) := fun jump W3 hl3 => by
      have := run_endRound (P := Tryd.prog) jump hl3
      rw [hrec] at this ⊢
      exact this
    rintro e a3 W3 hp
    cases e with
    | normal =>
      obtain ⟨hi3, hb3, hd3, hl3⟩ := hp
      rw [hl2] at hl3
      rw [hk2] at hd3
      have hlt3 : w.heap.size + 1 < W3.heap.size := (Array.getElem?_eq_some_iff.1 hl3).1
      exact ⟨_, _, fin none W3 hl3, .inl ⟨rfl, ⟨hIp _ _ _ _ rfl (by omega) (by omega) hi3, World.putObj_heap_same hlt3, (World.putObj_heap_other (by omega)).trans hd3⟩, (World.putObj_heap_other (by omega)).trans (hb3.trans hb2)⟩⟩
    | ret =>
      obtain ⟨hi3, hd3, hl3⟩ := hp
      rw [hl2] at hl3
      rw [hk2] at hd3
      have hlt3 : w.heap.size + 1 < W3.heap.size := (Array.getElem?_eq_some_iff.1 hl3).1
      exact ⟨_, _, fin (some .ret) W3 hl3, .inr ⟨rfl, hXp _ _ _ _ (by omega) (by omega) hi3, World.putObj_heap_same hlt3, (World.putObj_heap_other (by omega)).trans hd3⟩⟩
    | exit id => exact hp.elim
    | goto t => exact hp.elim
    | panic ch => exact hp.elim
    | outgrown => exact hp.elim
  · rintro e W2 ⟨⟨v, rfl⟩, (⟨hi, hl, hk⟩ | ⟨pre, hpr, hi, hl, hk⟩)⟩
    · exact ⟨none, _, by have := run_endLoop (P := Tryd.prog) hl (by rw [hrec]; simp); rw [hrec] at this; exact this, hdone _ (hIp _ _ _ _ rfl (by omega) (by omega) hi) ((World.putObj_heap_other (by omega)).trans hk)⟩
    · exact ⟨some .ret, _, by have := run_endLoop (P := Tryd.prog) hl (by rw [hrec]; simp); rw [hrec] at this; exact this, hstop _ _ hpr (hXp _ _ _ _ (by omega) (by omega) hi) ((World.putObj_heap_other (by omega)).trans hk)⟩
/-- what a line adds: none: no line of a screen -/
def screen_Parse.b (k : Nat) (x : ByteArray) (out : List S46) : Option (Option (List S46)) :=
  if out.length < 1000 then (strings_TrimSuffix.f x ⟨#[10]⟩).bind fun t => (strings_Split.f k t ⟨#[32]⟩).bind fun ws =>
  match ws with
  | [w0, w1, w2, w3] => if out.length = 12 then some none else
    (strconv_Atoi_29.f w0).bind fun r0 => if r0.2.isNone = true then
    (strconv_Atoi_29.f w1).bind fun r1 => if r1.2.isNone = true then
    (strconv_Atoi_29.f w2).bind fun r2 => if r2.2.isNone = true then
    (strconv_Atoi_29.f w3).bind fun r3 => if r3.2.isNone = true then some (some (out ++ [(⟨(⟨r0.1, r1.1⟩ : S44), (⟨r2.1, r3.1⟩ : S44)⟩ : S46)])) else some none else some none else some none else some none
  | _ => some none
  else none
def screen_Parse.ls (k : Nat) : List ByteArray → List S46 → Option (Option (List S46))
  | [], out => some (some out)
  | x :: xs, out => (screen_Parse.b k x out).bind fun r => match r with | none => some none | some out' => screen_Parse.ls k xs out'
def screen_Parse.f (k : Nat) (a0 : ByteArray) : Option (List S46 × Int) :=
  if a0.size ≤ 1000000 then (screen_Parse.ls k (linesL a0.data.toList) []).bind fun r => match r with
    | none => some ([], 2)
    | some out => (screen_Format.f k out).bind fun q => if q.2 = 0 then (if q.1.toList = a0.toList then some (out, 0) else some ([], 2)) else some ([], 2)
  else none
theorem sp_alloc_old (W : World) (o : Obj) (k : Nat) (h : k < W.heap.size) : (W.alloc o).heap[k]? = W.heap[k]? := Below.heap_alloc _ _ _ h
def flatS (out : List S46) : List Value := out.flatMap fun s => [.int .i64 s.f0.f0, .int .i64 s.f0.f1, .int .i64 s.f1.f0, .int .i64 s.f1.f1]
structure PI (w : World) (out : List S46) (W : World) : Prop where
  b2 : W.heap[w.heap.size]? = some (.cells #[.slice none 0 0] 22 (0, 0))
  b3 : W.heap[w.heap.size + 1]? = some (.cells #[.int .i64 0] 25 (0, 0))
  v : ∃ v, W.heap[w.heap.size + 2]? = some (.cells #[v] 22 (0, 0)) ∧ W.ownsRow w.heap.size 46 4 v out.length (flatS out)
  bs : ∃ s, W.heap[w.heap.size + 3]? = some (.cells #[s] 9 (0, 0))
  bel : Below w.heap.size w W
  nc : ∀ k, w.heap.size + 4 ≤ k → k < w.heap.size + 6 → ∀ o, W.heap[k]? = some o → o.isCells = false
structure PX (w : World) (W : World) : Prop where
  b2 : W.heap[w.heap.size]? = some (.cells #[.slice none 0 0] 22 (0, 0))
  b3 : W.heap[w.heap.size + 1]? = some (.cells #[.int .i64 2] 25 (0, 0))
  bel : Below w.heap.size w W
theorem PI.move {w W W1 : World} {out : List S46} (h : PI w out W) (hk : ∀ (k : Nat) (cs : Array Value) (t : TypeId), t ≠ 9 → W.heap[k]? = some (Obj.cells cs t (0, 0)) → W1.heap[k]? = some (Obj.cells cs t (0, 0)))
    (hbs : ∃ s, W1.heap[w.heap.size + 3]? = some (.cells #[s] 9 (0, 0))) (hbel : Below w.heap.size w W1) (hnc : ∀ k, w.heap.size + 4 ≤ k → k < w.heap.size + 6 → ∀ o, W1.heap[k]? = some o → o.isCells = false) : PI w out W1 := by
  obtain ⟨v, hv, hr⟩ := h.v
  refine ⟨hk _ _ 22 (by decide) h.b2, hk _ _ 25 (by decide) h.b3, ⟨v, hk _ _ 22 (by decide) hv, own_move hr fun k e => ?_⟩, hbs, hbel, hnc⟩
  obtain ⟨cs, hc⟩ := own_typed hr k e
  exact (hk k cs 46 (by decide) hc).trans hc.symm
theorem PI.drawn {w W W1 : World} {out : List S46} (h : PI w out W) (hd : Drawn0 W W1) : PI w out W1 := by
  obtain ⟨n, rfl⟩ := hd
  exact h.move (fun _ _ _ _ q => q) h.bs (pw_below_drewN h.bel _) h.nc
theorem PI.set {w W : World} {out : List S46} (h : PI w out W) (v : Value) : PI w out (W.setCell ⟨w.heap.size + 3, 0, none⟩ v) := by
  obtain ⟨s, hs⟩ := h.bs
  refine h.move (fun k cs t ht q => set_far q (fun e => ?_)) ⟨v, blk_put (cs := #[s]) hs 0 v rfl⟩ (below_set h.bel (Nat.le_add_right _ _)) (fun k h1 h2 o ho => ?_)
  · subst e; rw [hs] at q; cases q; exact ht rfl
  · refine h.nc k h1 h2 o ?_
    have hne : k ≠ w.heap.size + 3 := by omega
    rw [← ho]
    rcases Nat.lt_or_ge k W.heap.size with hlt | hge
    · exact ((grownBy_setCell' W (w.heap.size + 3) v).block k hlt (fun e => hne (by cases e; rfl))).symm
    · have hz : (W.setCell ⟨w.heap.size + 3, 0, none⟩ v).heap.size = W.heap.size := by
        have a := blk_put (cs := #[s]) hs 0 v rfl
        simp [World.setCell]
      rw [Array.getElem?_eq_none (by omega), Array.getElem?_eq_none (by omega)]
theorem PI.alloc {w W : World} {out : List S46} (h : PI w out W) (o : Obj) (ho : o.isCells = false) : PI w out (W.alloc o) := by
  obtain ⟨s, hs⟩ := h.bs
  refine h.move (fun k cs t _ q => (sp_alloc_old W o k (Array.getElem?_eq_some_iff.1 q).1).trans q) ⟨s, (sp_alloc_old W o _ (Array.getElem?_eq_some_iff.1 hs).1).trans hs⟩ (below_alloc h.bel _) (fun k h1 h2 o' ho' => ?_)
  rcases Nat.lt_trichotomy k W.heap.size with hlt | he | hgt
  · exact h.nc k h1 h2 o' ((sp_alloc_old W o k hlt).symm.trans ho')
  · subst he; rw [World.alloc_heap_new] at ho'; cases ho'; exact ho
  · rw [Array.getElem?_eq_none (by rw [World.size_alloc]; omega)] at ho'; cases ho'
theorem below_put {n : Nat} {w W : World} {k : Nat} (o : Obj) (h : Below n w W) (hk : n ≤ k) : Below n w (W.putObj k o) :=
  ⟨h.os, h.tape, h.output, by rw [World.putObj_size]; exact h.size, fun j hj => (World.putObj_heap_other (by omega)).trans (h.block j hj)⟩
theorem PI.put {w W : World} {out : List S46} (h : PI w out W) (k : Nat) (o : Obj) (ho : o.isCells = false) (h1 : w.heap.size + 4 ≤ k) (h2 : k < w.heap.size + 6) : PI w out (W.putObj k o) := by
  obtain ⟨s, hs⟩ := h.bs
  refine h.move (fun j cs t _ q => (World.putObj_heap_other (fun e => ?_)).trans q) ⟨s, (World.putObj_heap_other (by omega)).trans hs⟩ (below_put o h.bel (by omega)) (fun j g1 g2 o' ho' => ?_)
  · subst e; have := h.nc j h1 h2 _ q; cases this
  · rcases Nat.decEq j k with hne | rfl
    · exact h.nc j g1 g2 o' ((World.putObj_heap_other hne).symm.trans ho')
    · rcases Nat.lt_or_ge j W.heap.size with hlt | hge
      · rw [World.putObj_heap_same hlt] at ho'; cases ho'; exact ho
      · rw [Array.getElem?_eq_none (by rw [World.putObj_size]; omega)] at ho'; cases ho'
theorem PX.put {w W : World} (h : PX w W) (k : Nat) (o : Obj) (h1 : w.heap.size + 4 ≤ k) : PX w (W.putObj k o) :=
  ⟨(World.putObj_heap_other (by omega)).trans h.b2, (World.putObj_heap_other (by omega)).trans h.b3, below_put o h.bel (by omega)⟩
theorem PI.below {w W W1 : World} {out : List S46} (h : PI w out W) (hz : w.heap.size + 6 ≤ W.heap.size) (hb : Below W.heap.size W W1) : PI w out W1 := by
  obtain ⟨s, hs⟩ := h.bs
  exact h.move (fun k cs t _ q => (hb.block k (Array.getElem?_eq_some_iff.1 q).1).trans q) ⟨s, (hb.block _ (Array.getElem?_eq_some_iff.1 hs).1).trans hs⟩ (h.bel.trans (hb.mono h.bel.size)) (fun k h1 h2 o ho => h.nc k h1 h2 o ((hb.block k (by omega)).symm.trans ho))
theorem reps_flat {R : S46 → List Value → Prop} (hR : ∀ s : S46, R s [.int .i64 s.f0.f0, .int .i64 s.f0.f1, .int .i64 s.f1.f0, .int .i64 s.f1.f1]) : ∀ (out pre : List S46) (cs : List Value), Reps R 4 pre cs → Reps R 4 (pre ++ out) (cs ++ flatS out)
  | [], pre, cs, h => by simpa [flatS] using h
  | s :: out, pre, cs, h => by
    have := reps_flat hR out (pre ++ [s]) (cs ++ [.int .i64 s.f0.f0, .int .i64 s.f0.f1, .int .i64 s.f1.f0, .int .i64 s.f1.f1]) (h.snoc (hR s) rfl)
    simpa [flatS] using this
theorem PI.slice {w W : World} {out : List S46} (h : PI w out W) : ∃ A c, W.heap[w.heap.size + 2]? = some (.cells #[.slice A out.length c] 22 (0, 0)) ∧ W.ownsRow w.heap.size 46 4 (.slice A out.length c) out.length (flatS out) := by
  obtain ⟨v, hv, hr⟩ := h.v
  have HR : Kd.R k46 46 W w.heap.size (fun _ => True) v out := ⟨fun _ _ => trivial, flatS out, hr, reps_flat (R := k46.M W w.heap.size (fun k => (fun _ => True) k ∧ some k ≠ v.ownBlock)) (fun s => k46_mkM _ _ _ s) out [] [] (Reps.none _ _)⟩
  obtain ⟨A, c, rfl⟩ := Kd.R_slice HR
  exact ⟨A, c, hv, hr⟩
theorem ls_snoc (k : Nat) (x : ByteArray) : ∀ (pre : List ByteArray) (o out : List S46), screen_Parse.ls k pre o = some (some out) → screen_Parse.ls k (pre ++ [x]) o = screen_Parse.b k x out
  | [], o, out, h => by
    obtain rfl : o = out := by simpa [screen_Parse.ls] using h
    simp only [List.nil_append, screen_Parse.ls]
    cases screen_Parse.b k x o with
    | none => rfl
    | some r => cases r <;> rfl
  | y :: pre, o, out, h => by
    simp only [List.cons_append, screen_Parse.ls] at h ⊢
    cases hb : screen_Parse.b k y o with
    | none => rw [hb] at h; cases h
    | some r =>
      rw [hb] at h
      cases r with
      | none => cases h
      | some o' => exact ls_snoc k x pre o' out h
theorem ls_pre (k : Nat) : ∀ (pre rest : List ByteArray) (o : List S46) (r : Option (List S46)), screen_Parse.ls k (pre ++ rest) o = some r → ∃ q, screen_Parse.ls k pre o = some q ∧ (q = none → r = none)
  | [], rest, o, r, h => ⟨some o, rfl, fun e => by cases e⟩
  | y :: pre, rest, o, r, h => by
    simp only [List.cons_append, screen_Parse.ls] at h ⊢
    cases hb : screen_Parse.b k y o with
    | none => rw [hb] at h; cases h
    | some q =>
      rw [hb] at h
      cases q with
      | none => exact ⟨none, rfl, fun _ => by simpa using h.symm⟩
      | some o' => exact ls_pre k pre rest o' r h
theorem fin5 {w W W2 : World} {out : List S46} (h : PI w out W) (hd : W.heap[w.heap.size + 4]? = some (.deferred (some []))) (hb : Below W.heap.size W W2) (v2 v3 : Value) (W3 : World) (e3 : W3 = (W2.setCell ⟨w.heap.size, 0, none⟩ v2).setCell ⟨w.heap.size + 1, 0, none⟩ v3) (o : Obj) :
    W3.heap[w.heap.size + 4]? = some (.deferred (some [])) ∧ (W3.putObj (w.heap.size + 4) o).heap[w.heap.size]? = some (.cells #[v2] 22 (0, 0)) ∧ (W3.putObj (w.heap.size + 4) o).heap[w.heap.size + 1]? = some (.cells #[v3] 25 (0, 0)) ∧
      Below w.heap.size w (W3.putObj (w.heap.size + 4) o) ∧ ∀ v n xs, W.ownsRow w.heap.size 46 4 v n xs → (W3.putObj (w.heap.size + 4) o).ownsRow w.heap.size 46 4 v n xs := by
  have g2 := (hb.block _ (Array.getElem?_eq_some_iff.1 h.b2).1).trans h.b2
  have g3 := (hb.block _ (Array.getElem?_eq_some_iff.1 h.b3).1).trans h.b3
  have gd := (hb.block _ (Array.getElem?_eq_some_iff.1 hd).1).trans hd
  subst e3
  have k2 : (W2.setCell ⟨w.heap.size, 0, none⟩ v2).heap[w.heap.size]? = some (.cells #[v2] 22 (0, 0)) := blk_put (cs := #[.slice none 0 0]) g2 0 v2 rfl
  have k3 : ((W2.setCell ⟨w.heap.size, 0, none⟩ v2).setCell ⟨w.heap.size + 1, 0, none⟩ v3).heap[w.heap.size + 1]? = some (.cells #[v3] 25 (0, 0)) := blk_put (cs := #[.int .i64 0]) (set_far g3 (by omega)) 0 v3 rfl
  refine ⟨set_far (set_far gd (by omega)) (by omega), (World.putObj_heap_other (by omega)).trans (set_far k2 (by omega)), (World.putObj_heap_other (by omega)).trans k3,
    below_put _ (below_set (below_set (h.bel.trans (hb.mono h.bel.size)) (Nat.le_refl _)) (by show w.heap.size ≤ w.heap.size + 1; omega)) (by omega), fun v n xs hr => own_move hr fun k e => ?_⟩
  obtain ⟨cs, hc⟩ := own_typed hr k e
  have n2 : k ≠ w.heap.size := fun e => by subst e; rw [h.b2] at hc; cases hc
  have n3 : k ≠ w.heap.size + 1 := fun e => by subst e; rw [h.b3] at hc; cases hc
  have n4 : k ≠ w.heap.size + 4 := fun e => by subst e; rw [hd] at hc; cases hc
  exact (World.putObj_heap_other n4).trans ((set_far (set_far ((hb.block _ (Array.getElem?_eq_some_iff.1 hc).1).trans hc) n2) n3).trans hc.symm)
theorem retX {k : Nat} {w W W2 W3 : World} {out : List S46} {xs : List ByteArray} {Bs : Nat} {a : Act} {I : List ByteArray → World → Prop} (h : PI w out W2) (hls : screen_Parse.ls k xs [] = some none)
    (hd : W2.heap[w.heap.size + 4]? = W.heap[w.heap.size + 4]?) (hd1 : W2.heap[w.heap.size + 4 + 1]? = W.heap[w.heap.size + 4 + 1]?)
    (e3 : W3 = (W2.setCell ⟨w.heap.size, 0, none⟩ (.slice none 0 0)).setCell ⟨w.heap.size + 1, 0, none⟩ (.int .i64 2)) (hz : w.heap.size + 6 ≤ W2.heap.size) :
    roundLeft (w.heap.size + 4) Bs I (fun pre W => screen_Parse.ls k pre [] = some none ∧ PX w W) xs W Exit.ret a W3 := by
  have k2 : (W2.setCell ⟨w.heap.size, 0, none⟩ (.slice none 0 0)).heap[w.heap.size]? = some (.cells #[.slice none 0 0] 22 (0, 0)) := blk_put (cs := #[.slice none 0 0]) h.b2 0 _ rfl
  have k3 : ((W2.setCell ⟨w.heap.size, 0, none⟩ (.slice none 0 0)).setCell ⟨w.heap.size + 1, 0, none⟩ (.int .i64 2)).heap[w.heap.size + 1]? = some (.cells #[.int .i64 2] 25 (0, 0)) := blk_put (cs := #[.int .i64 0]) (set_far h.b3 (by omega)) 0 _ rfl
  have far : ∀ k, w.heap.size + 4 ≤ k → k < W2.heap.size → W3.heap[k]? = W2.heap[k]? := fun k h1 h2 => by
    rw [e3, set_far (set_far (Array.getElem?_eq_getElem h2) (by omega)) (by omega), Array.getElem?_eq_getElem h2]
  refine ⟨⟨hls, ?_⟩, (far _ (by omega) (by omega)).trans hd, (far _ (by omega) (by omega)).trans hd1⟩
  subst e3
  exact ⟨set_far k2 (by omega), k3, below_set (below_set h.bel (Nat.le_refl _)) (by show w.heap.size ≤ w.heap.size + 1; omega)⟩
theorem keepX {n : Nat} {W W1 W2 : World} (hd : Drawn0 W W1) (hz : n + 4 + 2 ≤ W.heap.size) (hb : Below W1.heap.size W1 W2) :
    W2.heap[n + 4]? = W.heap[n + 4]? ∧ W2.heap[n + 4 + 1]? = W.heap[n + 4 + 1]? ∧ n + 6 ≤ W2.heap.size := by
  obtain ⟨nd, rfl⟩ := hd
  exact ⟨hb.block (n + 4) (show n + 4 < W.heap.size by omega), hb.block (n + 4 + 1) (show n + 4 + 1 < W.heap.size by omega), Nat.le_trans (show n + 6 ≤ W.heap.size by omega) hb.size⟩
theorem str_head {W : World} {base : Nat} {A : Option Addr} {c : Nat} {ok : Nat → Prop} {ws : List ByteArray} (h : Kd.string.R 9 W base ok (.slice A ws.length c) ws) (hn : 0 < ws.length) : ∃ g, A = some ⟨g, 0, none⟩ := by
  obtain ⟨ad, c', hv⟩ := Kd.R_slice1 h hn
  injection hv with hA _ _
  subst hA
  obtain ⟨g, rfl⟩ := Kd.R_head h
  exact ⟨g, rfl⟩
theorem str_at4 {W : World} {base g c : Nat} {ok : Nat → Prop} {w0 w1 w2 w3 : ByteArray} (h : Kd.string.R 9 W base ok (.slice (some ⟨g, 0, none⟩) [w0, w1, w2, w3].length c) [w0, w1, w2, w3]) (W' : World) (hb : Below W.heap.size W W') :
    W'.cell? ⟨g, 0, none⟩ = some (.string w0) ∧ W'.cell? ⟨g, 1, none⟩ = some (.string w1) ∧ W'.cell? ⟨g, 2, none⟩ = some (.string w2) ∧ W'.cell? ⟨g, 3, none⟩ = some (.string w3) := by
  have key : ∀ i : Nat, (hi : i < 4) → W.cell? ⟨g, i, none⟩ = some (.string ([w0, w1, w2, w3].getD i ByteArray.empty)) := fun i hi => by
    obtain ⟨cs, hl, hM, hc⟩ := Kd.R_getA h ByteArray.empty i (by omega) (by show (i : Int) < 4; omega)
    obtain rfl : cs = [.string ([w0, w1, w2, w3].getD i ByteArray.empty)] := hM
    have := hc 0 _ rfl
    rw [add_at, Nat.zero_add] at this
    simpa [show Kd.string.sz = 1 from rfl] using this
  have lt : ∀ i : Nat, i < 4 → W'.cell? ⟨g, i, none⟩ = some (.string ([w0, w1, w2, w3].getD i ByteArray.empty)) := fun i hi => (hb.cell (World.block_lt_of_cell? W _ (key i hi))).trans (key i hi)
  exact ⟨lt 0 (by decide), lt 1 (by decide), lt 2 (by decide), lt 3 (by decide)⟩
/-- the array of a line's numbers -/
structure PR (W2 : World) (cs : Array Value) (W : World) : Prop where
  bel : Below W2.heap.size W2 W
  arr : W.heap[W2.heap.size]? = some (.cells cs 67 (0, 0))
theorem PR.start (W2 : World) (cs : Array Value) : PR W2 cs (W2.alloc (.cells cs 67)) := ⟨below_alloc (Below.refl _ W2) _, World.alloc_heap_new _ _⟩
theorem PR.call {W2 W W' : World} {cs : Array Value} (h : PR W2 cs W) (hb : Below W.heap.size W W') : PR W2 cs W' :=
  ⟨h.bel.trans (hb.mono h.bel.size), (hb.block _ (Array.getElem?_eq_some_iff.1 h.arr).1).trans h.arr⟩
theorem PR.set {W2 W : World} {cs cs' : Array Value} (h : PR W2 cs W) (i : Nat) (v : Value) (he : cs.setIfInBounds i v = cs') : PR W2 cs' (W.setCell ⟨W2.heap.size, i, none⟩ v) :=
  ⟨below_set h.bel (Nat.le_refl _), blk_put h.arr i v he⟩
theorem PR.cell {W2 W : World} {cs : Array Value} (h : PR W2 cs W) (i : Nat) : W.cell? ⟨W2.heap.size, i, none⟩ = cs[i]? ∧ W.frozen? ⟨W2.heap.size, i, none⟩ = false := ⟨(blk_cell h.arr i).trans rfl, blk_frozen h.arr i⟩
theorem PI.four {w W2 : World} {out : List S46} (h : PI w out W2) (W : World) (hb : Below W2.heap.size W2 W) :
    W.cell? ⟨w.heap.size, 0, none⟩ = some (.slice none 0 0) ∧ W.frozen? ⟨w.heap.size, 0, none⟩ = false ∧ W.cell? ⟨w.heap.size + 1, 0, none⟩ = some (.int .i64 0) ∧ W.frozen? ⟨w.heap.size + 1, 0, none⟩ = false := by
  have g2 := (hb.block _ (Array.getElem?_eq_some_iff.1 h.b2).1).trans h.b2
  have g3 := (hb.block _ (Array.getElem?_eq_some_iff.1 h.b3).1).trans h.b3
  exact ⟨(blk_cell g2 0).trans rfl, blk_frozen g2 0, (blk_cell g3 0).trans rfl, blk_frozen g3 0⟩
theorem retY {k : Nat} {w W W2 W5 W3 : World} {out : List S46} {xs : List ByteArray} {Bs : Nat} {a : Act} {cs : Array Value} {I : List ByteArray → World → Prop} (h : PI w out W2)
    (hk : W2.heap[w.heap.size + 4]? = W.heap[w.heap.size + 4]? ∧ W2.heap[w.heap.size + 4 + 1]? = W.heap[w.heap.size + 4 + 1]? ∧ w.heap.size + 6 ≤ W2.heap.size) (hp : PR W2 cs W5) (hls : screen_Parse.ls k xs [] = some none)
    (e3 : W3 = (W5.setCell ⟨w.heap.size, 0, none⟩ (.slice none 0 0)).setCell ⟨w.heap.size + 1, 0, none⟩ (.int .i64 2)) :
    roundLeft (w.heap.size + 4) Bs I (fun pre W => screen_Parse.ls k pre [] = some none ∧ PX w W) xs W Exit.ret a W3 :=
  have hz := hk.2.2
  retX (h.below hk.2.2 hp.bel) hls ((hp.bel.block _ (by omega)).trans hk.1) ((hp.bel.block _ (by omega)).trans hk.2.1) e3 (Nat.le_trans hk.2.2 hp.bel.size)
theorem PI.app {w U w1 : World} {out : List S46} {v v' : Value} {o : Obj} (s : S46) (h : PI w out U) (hv : U.heap[w.heap.size + 2]? = some (.cells #[v] 22 (0, 0))) (hr : U.ownsRow w.heap.size 46 4 v out.length (flatS out)) (hz : w.heap.size + 6 ≤ U.heap.size)
    (hg : (U.alloc o).grownBy w1 v.ownBlock) (hown : w1.ownsRow w.heap.size 46 4 v' (out.length + 1) (flatS out ++ [.int .i64 s.f0.f0, .int .i64 s.f0.f1, .int .i64 s.f1.f0, .int .i64 s.f1.f1])) :
    PI w (out ++ [s]) (w1.setCell ⟨w.heap.size + 2, 0, none⟩ v') ∧ (∀ k, w.heap.size + 3 ≤ k → k < w.heap.size + 6 → (w1.setCell ⟨w.heap.size + 2, 0, none⟩ v').heap[k]? = U.heap[k]?) ∧
      w1.cell? ⟨w.heap.size + 1 + 1, 0, none⟩ = some v ∧ w1.frozen? ⟨w.heap.size + 2, 0, none⟩ = false := by
  have far : ∀ k ob, U.heap[k]? = some ob → (∀ cs, ob ≠ Obj.cells cs 46 (0, 0)) → w1.heap[k]? = some ob := fun k ob hk hne => by
    have hlt := (Array.getElem?_eq_some_iff.1 hk).1
    refine (hg.block k (by rw [World.size_alloc]; omega) (fun e => ?_)).trans ((sp_alloc_old U o k hlt).trans hk)
    obtain ⟨cs, hc⟩ := own_typed hr k e.symm
    rw [hk] at hc
    exact hne cs (Option.some.inj hc)
  obtain ⟨s3, h3⟩ := h.bs
  have k2 := far _ _ h.b2 (fun cs e => by cases e)
  have k3 := far _ _ h.b3 (fun cs e => by cases e)
  have k4 := far _ _ hv (fun cs e => by cases e)
  have k5 := far _ _ h3 (fun cs e => by cases e)
  have hd : ∀ k, w.heap.size + 4 ≤ k → k < w.heap.size + 6 → w1.heap[k]? = U.heap[k]? := fun k h1 h2 => by
    have e := Array.getElem?_eq_getElem (xs := U.heap) (i := k) (by omega)
    rw [e]
    exact far _ _ e (fun cs e1 => by have := h.nc k h1 h2 _ e; rw [e1] at this; cases this)
  have hne : some (w.heap.size + 2) ≠ v'.ownBlock := own_ne hown k4 (by decide)
  refine ⟨⟨set_far k2 (by omega), set_far k3 (by omega), ⟨v', blk_put (cs := #[v]) k4 0 v' rfl, ?_⟩, ⟨s3, set_far k5 (by omega)⟩, below_set (Below.grown (below_alloc h.bel o) hg (by rw [World.size_alloc]; omega) (fun k hk => own_base hr k hk)) (by show w.heap.size ≤ w.heap.size + 2; omega), fun k h1 h2 ob ho => ?_⟩, fun k h1 h2 => ?_, (blk_cell k4 0).trans rfl, blk_frozen k4 0⟩
  · have := own_setCell hown (p := ⟨w.heap.size + 2, 0, none⟩) hne v'
    simpa [flatS, List.flatMap_append] using this
  · have e := Array.getElem?_eq_getElem (xs := U.heap) (i := k) (by omega)
    have e1 := (hd k h1 h2).trans e
    rw [set_far e1 (by omega)] at ho
    cases ho
    exact h.nc k h1 h2 _ e
  · have e := Array.getElem?_eq_getElem (xs := U.heap) (i := k) (by omega)
    rw [e]
    refine set_far ?_ (by omega)
    rcases Nat.lt_or_ge k (w.heap.size + 4) with q | q
    · obtain rfl : k = w.heap.size + 3 := by omega
      rw [h3] at e
      rw [k5, e]
    · exact (hd k q h2).trans e
theorem keepB {n : Nat} {W W1 W2 : World} (hd : Drawn0 W W1) (hz : n + 4 + 2 ≤ W.heap.size) (hb : Below W1.heap.size W1 W2) : W2.heap[n + 3]? = W.heap[n + 3]? := by
  obtain ⟨nd, rfl⟩ := hd
  exact hb.block (n + 3) (show n + 3 < W.heap.size by omega)
theorem res9 {tmps : Array Value} {w : World} {g g' : Nat} {v v' : Value} (hp : tmps.getD 2 undef = .pointer (some ⟨g, 0, none⟩)) (hp' : tmps.getD 3 undef = .pointer (some ⟨g', 0, none⟩))
    (hg : w.heap[g]? = some (.cells #[v] 22 (0, 0))) (hg' : w.heap[g']? = some (.cells #[v'] 25 (0, 0))) : (results Tryd.f9 tmps).run Tryd.prog w = .ok (.tuple #[v, v']) w := by
  have c1 : w.cell? ⟨g, 0, none⟩ = some v := (blk_cell hg 0).trans rfl
  have c2 : w.cell? ⟨g', 0, none⟩ = some v' := (blk_cell hg' 0).trans rfl
  have q1 : tmps[2]?.getD undef = .pointer (some ⟨g, 0, none⟩) := by simpa using hp
  have q2 : tmps[3]?.getD undef = .pointer (some ⟨g', 0, none⟩) := by simpa using hp'
  simp [results, show Tryd.f9.results = #[.cell 2 22, .cell 3 25] from rfl, asAddr, q1, q2, go_sem, c1, c2]
set_option maxRecDepth 100000 in
set_option maxHeartbeats 2000000 in
theorem screen_Parse.calls (k : Nat) (a0 : ByteArray) (r1 : List (S46)) (r2 : Int) (w : World) (hE : Env w) (h : screen_Parse.f k a0 = some (r1, r2)) :
    Calls Tryd.prog 9 #[.string a0] w fun e w' => ∃ v0_ : Value, e = .returned (.tuple #[v0_, .int .i64 r2]) ∧ Kd.R k46 46 w' w.heap.size (fun _ => True) v0_ r1 ∧ Below w.heap.size w w' := by
  obtain ⟨⟨t0⟩⟩ := a0
  refine (callsIn_wide (n := 9)).1 ?_
  refine callsIn_of_wp_marks Tryd.func9 rfl trivial ?_ rfl
  simp only [Tryd.ntmps9, List.size_toArray, List.length_cons, List.length_nil, Nat.reduceAdd, Nat.reduceSub, Array.replicate_succ, Array.replicate_zero, List.push_toArray, List.append_toArray, List.nil_append, List.cons_append]
  have hF26 : Fence.wide.fn 26 := trivial
  have HE' : ∀ W, Below w.heap.size w W → Env W := fun W hb => Env.below hE hb
  gi_wp2_with (gi_at_call 26; refine (callsIn_wide.2 (Lines_calls _ _)).mono ?_; rintro e w' ⟨rfl, rfl⟩)
  unfold screen_Parse.f at h
  split at h
  case isFalse => cases h
  rename_i hsz
  obtain ⟨res, hls, hres⟩ := Option.bind_eq_some_iff.1 h
  clear h
  obtain ⟨W0, hW0⟩ : ∃ W0, W0 = ((((w.alloc (Obj.cells #[Value.slice none 0 0] 22)).alloc (Obj.cells #[Value.int IntKind.i64 0] 25)).alloc (Obj.cells #[Value.slice none 0 0] 22)).alloc (Obj.cells #[Value.string { data := { toList := t0 } }] 9)) := ⟨_, rfl⟩
  have z0 : W0.heap.size = w.heap.size + 4 := by rw [hW0]; simp
  have B0 : Below w.heap.size w W0 := by rw [hW0]; exact below_alloc (below_alloc (below_alloc (below_alloc (Below.refl _ w) _) _) _) _
  have hBs : W0.heap[w.heap.size + 1 + 1 + 1]? = some (Obj.cells #[.string ⟨t0.toArray⟩] 9 (0, 0)) := by
    rw [hW0]; have := World.alloc_heap_new (((w.alloc (Obj.cells #[Value.slice none 0 0] 22)).alloc (Obj.cells #[Value.int IntKind.i64 0] 25)).alloc (Obj.cells #[Value.slice none 0 0] 22)) (Obj.cells #[Value.string { data := { toList := t0 } }] 9)
    simpa using this
  have P0 : PI w [] W0 := by
    refine ⟨?_, ?_, ⟨.slice none 0 0, ?_, World.ownsRow_nil _ _ _ _⟩, ⟨_, hBs⟩, B0, fun k h1 h2 o ho => ?_⟩
    · rw [hW0, sp_alloc_old _ _ _ (by simp <;> omega), sp_alloc_old _ _ _ (by simp <;> omega), sp_alloc_old _ _ _ (by simp), World.alloc_heap_new]
    · rw [hW0, sp_alloc_old _ _ _ (by simp <;> omega), sp_alloc_old _ _ _ (by simp)]
      have := World.alloc_heap_new (w.alloc (Obj.cells #[Value.slice none 0 0] 22)) (Obj.cells #[Value.int IntKind.i64 0] 25)
      simpa using this
    · rw [hW0, sp_alloc_old _ _ _ (by simp)]
      have := World.alloc_heap_new ((w.alloc (Obj.cells #[Value.slice none 0 0] 22)).alloc (Obj.cells #[Value.int IntKind.i64 0] 25)) (Obj.cells #[Value.slice none 0 0] 22)
      simpa using this
    · rw [Array.getElem?_eq_none (by omega)] at ho; cases ho
  rw [← hW0]
  have HZ := Aside0.mk z0
  have HLS := Aside0.mk hls
  have HRES := Aside0.mk hres
  have HB0 := Aside0.mk B0
  clear hW0 hls hres B0
  refine rangeLines 9 (by omega) (w.heap.size + 1 + 1 + 1) t0 (by simpa [ByteArray.size] using hsz) rfl hBs
    (fun pre W => ∃ out, screen_Parse.ls k pre [] = some (some out) ∧ PI w out W) (fun pre W => screen_Parse.ls k pre [] = some none ∧ PX w W)
    (fun s A B ⟨out, h1, h2⟩ hd => ⟨out, h1, h2.drawn hd⟩) (fun s A v ⟨out, h1, h2⟩ => ⟨out, h1, h2.set v⟩) (fun s A o ho ⟨out, h1, h2⟩ => ⟨out, h1, h2.alloc o ho⟩)
    (fun s A j o ho g1 g2 ⟨out, h1, h2⟩ => ⟨out, h1, h2.put j o ho (by rw [← HZ.out]; exact g1) (by have := HZ.out; omega)⟩) (fun s A j o g1 g2 ⟨h1, h2⟩ => ⟨h1, h2.put j o (by rw [← HZ.out]; exact g1)⟩)
    ⟨[], rfl, P0⟩ (fun x => { tmps := #[.string ⟨⟨t0⟩⟩, undef, .pointer (some ⟨w.heap.size, 0, none⟩), .pointer (some ⟨w.heap.size + 1, 0, none⟩), .pointer (some ⟨w.heap.size + 1 + 1, 0, none⟩), .string x, undef, undef, undef, undef, undef, undef, undef, .string ⟨⟨t0⟩⟩, .func (.func 44) #[] #[.pointer (some ⟨w.heap.size + 1 + 1 + 1, 0, none⟩)], .string x, undef, undef, undef, undef, undef, undef, undef, undef, undef, undef, undef, undef, undef, undef, undef, undef, undef, undef, undef, undef, undef, undef, undef, undef, undef, undef, undef, undef, undef, undef, undef, undef, undef, undef, undef, undef, undef, undef, undef, undef, undef, undef, undef, undef, undef, undef, undef, undef, undef, undef, undef, undef, undef, undef, undef], defers := [] }) ?assign ?body ?done ?stop
  case assign =>
    intro l x W K hK
    gi_wp2
    exact hK
  case stop =>
    intro pre W ⟨rest, hpre⟩ ⟨h1, hX⟩ hK
    obtain ⟨q, hq, hqn⟩ := ls_pre k pre rest [] res (by rw [hpre]; exact HLS.out)
    rw [h1] at hq
    obtain rfl := hqn (Option.some.inj hq).symm
    obtain ⟨rfl, rfl⟩ : r1 = [] ∧ r2 = 2 := by simpa [eq_comm] using HRES.out
    have hD : w.heap.size < W0.heap.size := by have := HZ.out; omega
    have hD1 : w.heap.size + 1 < W0.heap.size := by have := HZ.out; omega
    refine wpIn_ret ?_
    rw [HZ.out] at hK
    gi_wp2
    refine ⟨by simp, .inl ⟨_, _, rfl, run_takeDeferred hK, ?_⟩⟩
    refine ⟨_, res9 (g := w.heap.size) (g' := w.heap.size + 1) rfl rfl ((World.putObj_heap_other (by omega)).trans hX.b2) ((World.putObj_heap_other (by omega)).trans hX.b3), ?_⟩
    exact ⟨_, rfl, ⟨fun _ _ => trivial, [], World.ownsRow_nil _ _ _ _, Reps.none _ _⟩, below_put _ hX.bel (by omega)⟩
  case done =>
    intro W ⟨out, h1, hP⟩ hK
    rw [HLS.out] at h1
    obtain rfl := Option.some.inj h1
    obtain ⟨v, hv, hr⟩ := hP.v
    have HR : Kd.R k46 46 W w.heap.size (fun _ => True) v out := ⟨fun _ _ => trivial, flatS out, hr, reps_flat (R := k46.M W w.heap.size (fun k => (fun _ => True) k ∧ some k ≠ v.ownBlock)) (fun s => k46_mkM _ _ _ s) out [] [] (Reps.none _ _)⟩
    obtain ⟨A, c, rfl⟩ := Kd.R_slice HR
    obtain ⟨q, hq, hres⟩ := Option.bind_eq_some_iff.1 HRES.out
    obtain ⟨q1, q2⟩ := q
    have HRD := Kd.R_reads' HR
    have e4 : W.cell? ⟨w.heap.size + 1 + 1, 0, none⟩ = some (.slice A out.length c) := (blk_cell hv 0).trans rfl
    rw [HZ.out] at hK
    have KK := Aside0.mk hK
    have HP := Aside0.mk hP
    have HRR := Aside0.mk hr
    have HF := Aside0.mk (screen_Format.calls k A c out q1 q2)
    have HQ := Aside0.mk hq
    have HRD2 := Aside0.mk HRD
    clear hK hP HR hq HRD hr hv
    have hF7 : Fence.wide.fn 7 := trivial
    have HW2 : ∀ W2, Below W.heap.size W W2 → (W2.cell? ⟨w.heap.size, 0, none⟩ = some (.slice none 0 0) ∧ W2.frozen? ⟨w.heap.size, 0, none⟩ = false) ∧ (W2.cell? ⟨w.heap.size + 1, 0, none⟩ = some (.int .i64 0) ∧ W2.frozen? ⟨w.heap.size + 1, 0, none⟩ = false) ∧ W2.cell? ⟨w.heap.size + 1 + 1, 0, none⟩ = some (.slice A out.length c) := fun W2 hb => by
      have g2 := (hb.block _ (Array.getElem?_eq_some_iff.1 HP.out.b2).1).trans HP.out.b2
      have g3 := (hb.block _ (Array.getElem?_eq_some_iff.1 HP.out.b3).1).trans HP.out.b3
      exact ⟨⟨(blk_cell g2 0).trans rfl, blk_frozen g2 0⟩, ⟨(blk_cell g3 0).trans rfl, blk_frozen g3 0⟩, (hb.cell (World.block_lt_of_cell? W _ e4)).trans e4⟩
    have HW2' := Aside0.mk HW2
    clear HW2
    by_cases c1 : q2 = 0
    · rw [if_pos c1] at hres
      subst c1
      by_cases c2 : q1.toList = (⟨⟨t0⟩⟩ : ByteArray).toList
      · rw [if_pos c2] at hres
        have c2t : q1.toList = t0 := by rw [c2]; exact ByteArray.toList_eq _
        have c2b : (q1.toList == t0) = true := beq_iff_eq.mpr c2t
        clear c2t
        have HE := Aside0.mk hres
        clear hres c2
        gi_wp2_with (gi_at_call 7; refine (callsIn_wide.2 (HF.out _ (Env.below hE HP.out.bel) HRD2.out.2.2 HRD2.out.2.1 HQ.out)).mono ?_; rintro e W2 ⟨rfl, hb⟩; obtain ⟨⟨g1, g2⟩, ⟨g3, g4⟩, g5⟩ := HW2'.out W2 hb; have HBB := Aside0.mk hb; clear hb)
        obtain ⟨f1, f2, f3, f4, f5⟩ := fin5 HP.out KK.out HBB.out (.slice A out.length c) (.int .i64 0) _ rfl (.deferred none)
        refine ⟨by simp, .inl ⟨_, _, rfl, run_takeDeferred f1, ?_⟩⟩
        refine ⟨_, res9 (g := w.heap.size) (g' := w.heap.size + 1) rfl rfl f2 f3, ?_⟩
        obtain ⟨rfl, rfl⟩ : out = r1 ∧ (0 : Int) = r2 := by simpa using HE.out
        exact ⟨_, rfl, ⟨fun _ _ => trivial, flatS out, f5 _ _ _ HRR.out, reps_flat (R := k46.M _ w.heap.size (fun k => (fun _ => True) k ∧ some k ≠ (Value.slice A out.length c).ownBlock)) (fun s => k46_mkM _ _ _ s) out [] [] (Reps.none _ _)⟩, f4⟩
      · rw [if_neg c2] at hres
        have c2b : (q1.toList == t0) = false := beq_eq_false_iff_ne.mpr (fun e => c2 (e.trans (ByteArray.toList_eq (⟨⟨t0⟩⟩ : ByteArray)).symm))
        have HE := Aside0.mk hres
        clear hres c2
        gi_wp2_with (gi_at_call 7; refine (callsIn_wide.2 (HF.out _ (Env.below hE HP.out.bel) HRD2.out.2.2 HRD2.out.2.1 HQ.out)).mono ?_; rintro e W2 ⟨rfl, hb⟩; obtain ⟨⟨g1, g2⟩, ⟨g3, g4⟩, g5⟩ := HW2'.out W2 hb; have HBB := Aside0.mk hb; clear hb)
        obtain ⟨f1, f2, f3, f4, f5⟩ := fin5 HP.out KK.out HBB.out (.slice none 0 0) (.int .i64 2) _ rfl (.deferred none)
        refine ⟨by simp, .inl ⟨_, _, rfl, run_takeDeferred f1, ?_⟩⟩
        refine ⟨_, res9 (g := w.heap.size) (g' := w.heap.size + 1) rfl rfl f2 f3, ?_⟩
        obtain ⟨rfl, rfl⟩ : r1 = [] ∧ (2 : Int) = r2 := by simpa [eq_comm] using HE.out
        exact ⟨_, rfl, ⟨fun _ _ => trivial, [], World.ownsRow_nil _ _ _ _, Reps.none _ _⟩, f4⟩
    · rw [if_neg c1] at hres
      have c1b : (q2 == 0) = false := beq_eq_false_iff_ne.mpr c1
      have HE := Aside0.mk hres
      clear hres
      · gi_wp2_with (gi_at_call 7; refine (callsIn_wide.2 (HF.out _ (Env.below hE HP.out.bel) HRD2.out.2.2 HRD2.out.2.1 HQ.out)).mono ?_; rintro e W2 ⟨rfl, hb⟩; obtain ⟨⟨g1, g2⟩, ⟨g3, g4⟩, g5⟩ := HW2'.out W2 hb; have HBB := Aside0.mk hb; clear hb)
        obtain ⟨f1, f2, f3, f4, f5⟩ := fin5 HP.out KK.out HBB.out (.slice none 0 0) (.int .i64 2) _ rfl (.deferred none)
        refine ⟨by simp, .inl ⟨_, _, rfl, run_takeDeferred f1, ?_⟩⟩
        refine ⟨_, res9 (g := w.heap.size) (g' := w.heap.size + 1) rfl rfl f2 f3, ?_⟩
        obtain ⟨rfl, rfl⟩ : r1 = [] ∧ (2 : Int) = r2 := by simpa [eq_comm] using HE.out
        exact ⟨_, rfl, ⟨fun _ _ => trivial, [], World.ownsRow_nil _ _ _ _, Reps.none _ _⟩, f4⟩
  case body =>
    intro l pre x W hz hpre ⟨out, h1, hP⟩
    obtain ⟨rest, hrest⟩ := hpre
    obtain ⟨q, hq, _⟩ := ls_pre k (pre ++ [x]) rest [] res (by rw [hrest]; exact HLS.out)
    have hqb := hq
    rw [ls_snoc k x pre [] out h1] at hqb
    unfold screen_Parse.b at hqb
    split at hqb
    case isFalse => cases hqb
    rename_i hk1000
    obtain ⟨t, htt, hqb⟩ := Option.bind_eq_some_iff.1 hqb
    obtain ⟨ws, hws, hqb⟩ := Option.bind_eq_some_iff.1 hqb
    rw [HZ.out] at hz ⊢
    have HZZ := Aside0.mk hz
    have HQ := Aside0.mk hq
    have HP := Aside0.mk hP
    have HT := Aside0.mk htt
    have HW := Aside0.mk hws
    clear h1 hrest hq hz hP htt hws
    have hF28 : Fence.wide.fn 28 := trivial
    have hF27 : Fence.wide.fn 27 := trivial
    have hF29 : Fence.wide.fn 29 := trivial
    by_cases hl4 : ws.length = 4
    · obtain ⟨w0, w1, w2, w3, rfl⟩ : ∃ w0 w1 w2 w3, ws = [w0, w1, w2, w3] := by
        match ws, hl4 with
        | [w0, w1, w2, w3], _ => exact ⟨_, _, _, _, rfl⟩
      clear hl4
      simp only [] at hqb
      by_cases h12 : out.length = 12
      · rw [if_pos h12] at hqb
        have HQB := Aside0.mk (Option.some.inj hqb).symm
        clear hqb
        have h12b : ((out.length : Int) == 12) = true := beq_iff_eq.mpr (by omega)
        gi_wp2_with (first
            | (gi_at_call 28; refine (CallsIn.inRound l (callsIn_wide.2 (strings_TrimSuffix.calls x _ t _ HT.out))).mono ?_; rintro e W1 ⟨rfl, hd⟩; have HD := Aside0.mk hd; clear hd)
            | (gi_at_call 27; refine (CallsIn.inRound l (callsIn_wide.2 (strings_Split.calls k t _ _ _ HW.out))).mono ?_; rintro e W2 ⟨v0, rfl, ho, hb⟩; obtain ⟨A, c, rfl⟩ := Kd.R_slice ho; have hP2 := (HP.out.drawn HD.out).below (by obtain ⟨nd, hnd⟩ := HD.out; rw [hnd]; exact HZZ.out) hb; have HP2 := Aside0.mk hP2; obtain ⟨A0, c0, hv0, hr0⟩ := hP2.slice; have e2 : W2.cell? ⟨w.heap.size, 0, none⟩ = some (.slice none 0 0) := (blk_cell hP2.b2 0).trans rfl; have f2 := blk_frozen hP2.b2 0; have e3 : W2.cell? ⟨w.heap.size + 1, 0, none⟩ = some (.int .i64 0) := (blk_cell hP2.b3 0).trans rfl; have f3 := blk_frozen hP2.b3 0; have e4 : W2.cell? ⟨w.heap.size + 1 + 1, 0, none⟩ = some (.slice A0 out.length c0) := (blk_cell hv0 0).trans rfl; have f4 := blk_frozen hv0 0; have HK := Aside0.mk (keepX HD.out HZZ.out hb); have HKB := Aside0.mk (keepB HD.out HZZ.out hb); have HO := Aside0.mk ho; have HR0 := Aside0.mk hr0; clear hb ho hP2 hv0 hr0))
        exact retX HP2.out (by rw [← HQB.out]; exact HQ.out) HK.out.1 HK.out.2.1 rfl HK.out.2.2
      · rw [if_neg h12] at hqb
        have h12b : ((out.length : Int) == 12) = false := beq_eq_false_iff_ne.mpr (by omega)
        have HQB := Aside0.mk hqb
        clear hqb
        gi_wp2_with (first
            | (gi_at_call 28; refine (CallsIn.inRound l (callsIn_wide.2 (strings_TrimSuffix.calls x _ t _ HT.out))).mono ?_; rintro e W1 ⟨rfl, hd⟩; have HD := Aside0.mk hd; clear hd)
            | (gi_at_call 27; refine (CallsIn.inRound l (callsIn_wide.2 (strings_Split.calls k t _ _ _ HW.out))).mono ?_; rintro e W2 ⟨v0, rfl, ho, hb⟩; obtain ⟨A, c, rfl⟩ := Kd.R_slice ho; have hP2 := (HP.out.drawn HD.out).below (by obtain ⟨nd, hnd⟩ := HD.out; rw [hnd]; exact HZZ.out) hb; have HP2 := Aside0.mk hP2; obtain ⟨A0, c0, hv0, hr0⟩ := hP2.slice; have e2 : W2.cell? ⟨w.heap.size, 0, none⟩ = some (.slice none 0 0) := (blk_cell hP2.b2 0).trans rfl; have f2 := blk_frozen hP2.b2 0; have e3 : W2.cell? ⟨w.heap.size + 1, 0, none⟩ = some (.int .i64 0) := (blk_cell hP2.b3 0).trans rfl; have f3 := blk_frozen hP2.b3 0; have e4 : W2.cell? ⟨w.heap.size + 1 + 1, 0, none⟩ = some (.slice A0 out.length c0) := (blk_cell hv0 0).trans rfl; have f4 := blk_frozen hv0 0; have HK := Aside0.mk (keepX HD.out HZZ.out hb); have HKB := Aside0.mk (keepB HD.out HZZ.out hb); have HO := Aside0.mk ho; have HR0 := Aside0.mk hr0; clear hb ho hP2 hv0 hr0))
        obtain ⟨g, rfl⟩ := str_head HO.out (by simp)
        have HS := Aside0.mk (str_at4 HO.out)
        have HQ4 := Aside0.mk (HP2.out.four)
        have hwk := HK.out.2.2
        have n20 : ¬ W2.heap.size = w.heap.size := by omega
        have n21 : ¬ W2.heap.size = w.heap.size + 1 := by omega
        have n20' : ¬ w.heap.size = W2.heap.size := by omega
        have n21' : ¬ w.heap.size + 1 = W2.heap.size := by omega
        clear hwk
        obtain ⟨cs0, hcs0⟩ : ∃ cs0 : Array Value, cs0 = #[Value.int IntKind.i64 0, Value.int IntKind.i64 0, Value.int IntKind.i64 0, Value.int IntKind.i64 0] := ⟨_, rfl⟩
        have HA := Aside0.mk (PR.start W2 cs0)
        subst hcs0
        clear e2 f2 e3 f3 e4 f4
        obtain ⟨W3, hW3⟩ : ∃ W3, W3 = W2.alloc (.cells #[Value.int IntKind.i64 0, Value.int IntKind.i64 0, Value.int IntKind.i64 0, Value.int IntKind.i64 0] 67) := ⟨_, rfl⟩
        rw [← hW3] at HA ⊢
        clear hW3
        refine wpIn_loop_rounds 5 ?_
        have HA0 : Aside0 (PR W2 #[.int .i64 0, .int .i64 0, .int .i64 0, .int .i64 0] W3) := HA
        clear HA
        have hqb := HQB.out
        clear HQB
        rw [roundsIn_succ]
        obtain ⟨r0, hr0, hqb⟩ := Option.bind_eq_some_iff.1 hqb
        obtain ⟨r01, r02⟩ := r0
        have HRR0 := Aside0.mk hr0
        have HEN := Aside0.mk (HE' _ (HP2.out.bel.trans (HA0.out.bel.mono HP2.out.bel.size)))
        obtain ⟨s0, s1, s2, s3⟩ := HS.out _ HA0.out.bel
        clear hr0
        by_cases hn : r02.isNone = true
        case neg =>
          obtain ⟨er, rfl⟩ : ∃ er, r02 = some er := by
            cases r02 with
            | none => exact absurd rfl hn
            | some er => exact ⟨er, rfl⟩
          rw [if_neg hn] at hqb
          have HQB := Aside0.mk (Option.some.inj hqb).symm
          clear hqb hn
          gi_wp2_with (gi_at_call 29; refine (CallsIn.inRound l (callsIn_wide.2 (strconv_Atoi_29.calls w0 r01 _ _ HEN.out HRR0.out))).mono ?_; rintro e W4 ⟨⟨v, ⟨N, rfl⟩, rfl⟩, hb⟩; have HV := Aside0.mk (HA0.out.call hb); obtain ⟨hc0, hf0⟩ := HV.out.cell 0; have hc0 : W4.cell? ⟨W2.heap.size, 0, none⟩ = some (.int .i64 0) := hc0; obtain ⟨g2, g2f, g3, g3f⟩ := HQ4.out _ HV.out.bel; clear hb)
          exact retY HP2.out HK.out (HV.out.set 0 _ rfl) (by rw [← HQB.out]; exact HQ.out) rfl
        obtain rfl : r02 = none := by
          cases r02 with
          | none => rfl
          | some er => cases hn
        rw [if_pos hn] at hqb
        have HQB := Aside0.mk hqb
        clear hqb hn
        gi_wp2_with (gi_at_call 29; refine (CallsIn.inRound l (callsIn_wide.2 (strconv_Atoi_29.calls w0 r01 _ _ HEN.out HRR0.out))).mono ?_; rintro e W4 ⟨⟨v, rfl, rfl⟩, hb⟩; have HV := Aside0.mk (HA0.out.call hb); obtain ⟨hc0, hf0⟩ := HV.out.cell 0; have hc0 : W4.cell? ⟨W2.heap.size, 0, none⟩ = some (.int .i64 0) := hc0; clear hb)
        obtain ⟨U1, hU⟩ : ∃ U1, U1 = W4.setCell ⟨W2.heap.size, 0, none⟩ (.int .i64 r01) := ⟨_, rfl⟩
        have HA1 : Aside0 (PR W2 #[.int .i64 r01, .int .i64 0, .int .i64 0, .int .i64 0] U1) := Aside0.mk (by rw [hU]; exact HV.out.set 0 _ rfl)
        rw [← hU]
        clear hU HV hc0 hf0 s0 s1 s2 s3 HEN
        have hqb := HQB.out
        clear HQB
        rw [roundsIn_succ]
        obtain ⟨r1, hr1, hqb⟩ := Option.bind_eq_some_iff.1 hqb
        obtain ⟨r11, r12⟩ := r1
        have HRR1 := Aside0.mk hr1
        have HEN := Aside0.mk (HE' _ (HP2.out.bel.trans (HA1.out.bel.mono HP2.out.bel.size)))
        obtain ⟨s0, s1, s2, s3⟩ := HS.out _ HA1.out.bel
        clear hr1
        by_cases hn : r12.isNone = true
        case neg =>
          obtain ⟨er, rfl⟩ : ∃ er, r12 = some er := by
            cases r12 with
            | none => exact absurd rfl hn
            | some er => exact ⟨er, rfl⟩
          rw [if_neg hn] at hqb
          have HQB := Aside0.mk (Option.some.inj hqb).symm
          clear hqb hn
          gi_wp2_with (gi_at_call 29; refine (CallsIn.inRound l (callsIn_wide.2 (strconv_Atoi_29.calls w1 r11 _ _ HEN.out HRR1.out))).mono ?_; rintro e W4 ⟨⟨v, ⟨N, rfl⟩, rfl⟩, hb⟩; have HV := Aside0.mk (HA1.out.call hb); obtain ⟨hc0, hf0⟩ := HV.out.cell 1; have hc0 : W4.cell? ⟨W2.heap.size, 1, none⟩ = some (.int .i64 0) := hc0; obtain ⟨g2, g2f, g3, g3f⟩ := HQ4.out _ HV.out.bel; clear hb)
          exact retY HP2.out HK.out (HV.out.set 1 _ rfl) (by rw [← HQB.out]; exact HQ.out) rfl
        obtain rfl : r12 = none := by
          cases r12 with
          | none => rfl
          | some er => cases hn
        rw [if_pos hn] at hqb
        have HQB := Aside0.mk hqb
        clear hqb hn
        gi_wp2_with (gi_at_call 29; refine (CallsIn.inRound l (callsIn_wide.2 (strconv_Atoi_29.calls w1 r11 _ _ HEN.out HRR1.out))).mono ?_; rintro e W4 ⟨⟨v, rfl, rfl⟩, hb⟩; have HV := Aside0.mk (HA1.out.call hb); obtain ⟨hc0, hf0⟩ := HV.out.cell 1; have hc0 : W4.cell? ⟨W2.heap.size, 1, none⟩ = some (.int .i64 0) := hc0; clear hb)
        obtain ⟨U2, hU⟩ : ∃ U2, U2 = W4.setCell ⟨W2.heap.size, 1, none⟩ (.int .i64 r11) := ⟨_, rfl⟩
        have HA2 : Aside0 (PR W2 #[.int .i64 r01, .int .i64 r11, .int .i64 0, .int .i64 0] U2) := Aside0.mk (by rw [hU]; exact HV.out.set 1 _ rfl)
        rw [← hU]
        clear hU HV hc0 hf0 s0 s1 s2 s3 HEN
        have hqb := HQB.out
        clear HQB
        rw [roundsIn_succ]
        obtain ⟨r2, hr2, hqb⟩ := Option.bind_eq_some_iff.1 hqb
        obtain ⟨r21, r22⟩ := r2
        have HRR2 := Aside0.mk hr2
        have HEN := Aside0.mk (HE' _ (HP2.out.bel.trans (HA2.out.bel.mono HP2.out.bel.size)))
        obtain ⟨s0, s1, s2, s3⟩ := HS.out _ HA2.out.bel
        clear hr2
        by_cases hn : r22.isNone = true
        case neg =>
          obtain ⟨er, rfl⟩ : ∃ er, r22 = some er := by
            cases r22 with
            | none => exact absurd rfl hn
            | some er => exact ⟨er, rfl⟩
          rw [if_neg hn] at hqb
          have HQB := Aside0.mk (Option.some.inj hqb).symm
          clear hqb hn
          gi_wp2_with (gi_at_call 29; refine (CallsIn.inRound l (callsIn_wide.2 (strconv_Atoi_29.calls w2 r21 _ _ HEN.out HRR2.out))).mono ?_; rintro e W4 ⟨⟨v, ⟨N, rfl⟩, rfl⟩, hb⟩; have HV := Aside0.mk (HA2.out.call hb); obtain ⟨hc0, hf0⟩ := HV.out.cell 2; have hc0 : W4.cell? ⟨W2.heap.size, 2, none⟩ = some (.int .i64 0) := hc0; obtain ⟨g2, g2f, g3, g3f⟩ := HQ4.out _ HV.out.bel; clear hb)
          exact retY HP2.out HK.out (HV.out.set 2 _ rfl) (by rw [← HQB.out]; exact HQ.out) rfl
        obtain rfl : r22 = none := by
          cases r22 with
          | none => rfl
          | some er => cases hn
        rw [if_pos hn] at hqb
        have HQB := Aside0.mk hqb
        clear hqb hn
        gi_wp2_with (gi_at_call 29; refine (CallsIn.inRound l (callsIn_wide.2 (strconv_Atoi_29.calls w2 r21 _ _ HEN.out HRR2.out))).mono ?_; rintro e W4 ⟨⟨v, rfl, rfl⟩, hb⟩; have HV := Aside0.mk (HA2.out.call hb); obtain ⟨hc0, hf0⟩ := HV.out.cell 2; have hc0 : W4.cell? ⟨W2.heap.size, 2, none⟩ = some (.int .i64 0) := hc0; clear hb)
        obtain ⟨U3, hU⟩ : ∃ U3, U3 = W4.setCell ⟨W2.heap.size, 2, none⟩ (.int .i64 r21) := ⟨_, rfl⟩
        have HA3 : Aside0 (PR W2 #[.int .i64 r01, .int .i64 r11, .int .i64 r21, .int .i64 0] U3) := Aside0.mk (by rw [hU]; exact HV.out.set 2 _ rfl)
        rw [← hU]
        clear hU HV hc0 hf0 s0 s1 s2 s3 HEN
        have hqb := HQB.out
        clear HQB
        rw [roundsIn_succ]
        obtain ⟨r3, hr3, hqb⟩ := Option.bind_eq_some_iff.1 hqb
        obtain ⟨r31, r32⟩ := r3
        have HRR3 := Aside0.mk hr3
        have HEN := Aside0.mk (HE' _ (HP2.out.bel.trans (HA3.out.bel.mono HP2.out.bel.size)))
        obtain ⟨s0, s1, s2, s3⟩ := HS.out _ HA3.out.bel
        clear hr3
        by_cases hn : r32.isNone = true
        case neg =>
          obtain ⟨er, rfl⟩ : ∃ er, r32 = some er := by
            cases r32 with
            | none => exact absurd rfl hn
            | some er => exact ⟨er, rfl⟩
          rw [if_neg hn] at hqb
          have HQB := Aside0.mk (Option.some.inj hqb).symm
          clear hqb hn
          gi_wp2_with (gi_at_call 29; refine (CallsIn.inRound l (callsIn_wide.2 (strconv_Atoi_29.calls w3 r31 _ _ HEN.out HRR3.out))).mono ?_; rintro e W4 ⟨⟨v, ⟨N, rfl⟩, rfl⟩, hb⟩; have HV := Aside0.mk (HA3.out.call hb); obtain ⟨hc0, hf0⟩ := HV.out.cell 3; have hc0 : W4.cell? ⟨W2.heap.size, 3, none⟩ = some (.int .i64 0) := hc0; obtain ⟨g2, g2f, g3, g3f⟩ := HQ4.out _ HV.out.bel; clear hb)
          exact retY HP2.out HK.out (HV.out.set 3 _ rfl) (by rw [← HQB.out]; exact HQ.out) rfl
        obtain rfl : r32 = none := by
          cases r32 with
          | none => rfl
          | some er => cases hn
        rw [if_pos hn] at hqb
        have HQB := Aside0.mk hqb
        clear hqb hn
        gi_wp2_with (gi_at_call 29; refine (CallsIn.inRound l (callsIn_wide.2 (strconv_Atoi_29.calls w3 r31 _ _ HEN.out HRR3.out))).mono ?_; rintro e W4 ⟨⟨v, rfl, rfl⟩, hb⟩; have HV := Aside0.mk (HA3.out.call hb); obtain ⟨hc0, hf0⟩ := HV.out.cell 3; have hc0 : W4.cell? ⟨W2.heap.size, 3, none⟩ = some (.int .i64 0) := hc0; clear hb)
        obtain ⟨U4, hU⟩ : ∃ U4, U4 = W4.setCell ⟨W2.heap.size, 3, none⟩ (.int .i64 r31) := ⟨_, rfl⟩
        have HA4 : Aside0 (PR W2 #[.int .i64 r01, .int .i64 r11, .int .i64 r21, .int .i64 r31] U4) := Aside0.mk (by rw [hU]; exact HV.out.set 3 _ rfl)
        rw [← hU]
        clear hU HV hc0 hf0 s0 s1 s2 s3 HEN
        have hqb := HQB.out
        clear HQB
        have HQB := Aside0.mk hqb
        clear hqb
        rw [roundsIn_succ]
        have c0' : U4.cell? ⟨W2.heap.size, 0, none⟩ = some (.int .i64 r01) := (HA4.out.cell 0).1
        have c1' : U4.cell? ⟨W2.heap.size, 1, none⟩ = some (.int .i64 r11) := (HA4.out.cell 1).1
        have c2' : U4.cell? ⟨W2.heap.size, 2, none⟩ = some (.int .i64 r21) := (HA4.out.cell 2).1
        have c3' : U4.cell? ⟨W2.heap.size, 3, none⟩ = some (.int .i64 r31) := (HA4.out.cell 3).1
        have HP4 := Aside0.mk (HP2.out.below HK.out.2.2 HA4.out.bel)
        obtain ⟨A4, c4, hv4, hr4⟩ := HP4.out.slice
        have e4 : U4.cell? ⟨w.heap.size + 1 + 1, 0, none⟩ = some (.slice A4 out.length c4) := (blk_cell hv4 0).trans rfl
        have f4 := blk_frozen hv4 0
        have HR4 := Aside0.mk hr4
        clear hr4
        obtain ⟨i0, hi, hi2⟩ := Option.map_eq_some_iff.1 info46
        have hz0 : i0.zero = some (Value.agg #[Value.int .i64 0, Value.int .i64 0, Value.int .i64 0, Value.int .i64 0]) := congrArg Prod.fst hi2
        have hz1 : i0.size = 4 := congrArg (fun p => p.2.1) hi2
        have hz2 : i0.bytes = 32 := congrArg (fun p => p.2.2) hi2
        clear hi2
        have HV4 := Aside0.mk hv4
        clear hv4
        have HG4 : Aside0 (w.heap.size + 6 ≤ U4.heap.size) := Aside0.mk (Nat.le_trans HK.out.2.2 HA4.out.bel.size)
        gi_wp2_with (gi_at_builtin; refine wpListIn_append_own _ rfl _ _ 22 rfl w.heap.size 46 i0 _ 4 32 Tryd.underlying22 hi hz0 hz1 hz2 rfl (by decide) _ _ _ rfl (HR4.out.alloc _) ⟨U4.heap.size, 0, none⟩ 1 1 [.int .i64 r01, .int .i64 r11, .int .i64 r21, .int .i64 r31] rfl rfl ?c1 ?c2 ?c3 ?c4 ?c5 ?_)
        case c1 =>
          intro j u hj
          match j, hj with
          | 0, hj => simp at hj; subst hj; simp [Addr.add]
          | 1, hj => simp at hj; subst hj; simp [Addr.add]
          | 2, hj => simp at hj; subst hj; simp [Addr.add]
          | 3, hj => simp at hj; subst hj; simp [Addr.add]
        case c2 => intro u hu; simp at hu; rcases hu with rfl | rfl | rfl | rfl <;> rfl
        case c3 => unfold maxLen; omega
        case c4 => omega
        case c5 => have := HG4.out; rw [World.size_alloc]; omega
        intro v' w1 hown' hgrow _
        obtain ⟨A', c', rfl⟩ := own_slice hown'
        obtain ⟨p1, p2, p3, p4⟩ := PI.app ⟨⟨r01, r11⟩, ⟨r21, r31⟩⟩ HP4.out HV4.out HR4.out HG4.out hgrow hown'
        clear hown' hgrow
        gi_wp2
        have hz2' := HK.out.2.2
        exact ⟨⟨_, by rw [← Option.some.inj HQB.out] at HQ; exact HQ.out, p1⟩, (p2 _ (by omega) (by omega)).trans ((HA4.out.bel.block _ (by omega)).trans HKB.out), (p2 _ (by omega) (by omega)).trans ((HA4.out.bel.block _ (by omega)).trans HK.out.1), (p2 _ (by omega) (by omega)).trans ((HA4.out.bel.block _ (by omega)).trans HK.out.2.1)⟩
    · have HQB := Aside0.mk (show q = none from by
        split at hqb
        · exact absurd rfl hl4
        · exact (Option.some.inj hqb).symm)
      clear hqb
      have hl4b : ((ws.length : Int) == 4) = false := beq_eq_false_iff_ne.mpr (by omega)
      gi_wp2_with (first
        | (gi_at_call 28; refine (CallsIn.inRound l (callsIn_wide.2 (strings_TrimSuffix.calls x _ t _ HT.out))).mono ?_; rintro e W1 ⟨rfl, hd⟩; have HD := Aside0.mk hd; clear hd)
        | (gi_at_call 27; refine (CallsIn.inRound l (callsIn_wide.2 (strings_Split.calls k t _ ws _ HW.out))).mono ?_; rintro e W2 ⟨v0, rfl, ho, hb⟩; obtain ⟨A, c, rfl⟩ := Kd.R_slice ho; have hP2 := (HP.out.drawn HD.out).below (by obtain ⟨nd, hnd⟩ := HD.out; rw [hnd]; exact HZZ.out) hb; have HP2 := Aside0.mk hP2; obtain ⟨A0, c0, hv0, hr0⟩ := hP2.slice; have e2 : W2.cell? ⟨w.heap.size, 0, none⟩ = some (.slice none 0 0) := (blk_cell hP2.b2 0).trans rfl; have f2 := blk_frozen hP2.b2 0; have e3 : W2.cell? ⟨w.heap.size + 1, 0, none⟩ = some (.int .i64 0) := (blk_cell hP2.b3 0).trans rfl; have f3 := blk_frozen hP2.b3 0; have e4 : W2.cell? ⟨w.heap.size + 1 + 1, 0, none⟩ = some (.slice A0 out.length c0) := (blk_cell hv0 0).trans rfl; have f4 := blk_frozen hv0 0; have HK := Aside0.mk (keepX HD.out HZZ.out hb); have HKB := Aside0.mk (keepB HD.out HZZ.out hb); have HO := Aside0.mk ho; have HR0 := Aside0.mk hr0; clear hb ho hP2 hv0 hr0))
      exact retX HP2.out (by rw [← HQB.out]; exact HQ.out) HK.out.1 HK.out.2.1 rfl HK.out.2.2
end

end Go.Proofs.YtjiheojjfnfmaaaDoor.ST

