/- Of the text LEx19, what the row of LureExchanges reaches. -/
import Derived.Test.YtnmaonampilmoaaZLureExchangesLEx0
import Derived.Test.YtnmaonampilmoaaZLureExchangesLEx1
import Derived.Laws.CopyOwn
namespace Go.Proofs.Ytnmaonampilmoaa.LE
open Go.RowKit Go.Proofs.YtnmaonampilmoaaW.PrintWords Go.Proofs.YtnmaonampilmoaaW.PrintLast Go.Proofs.YtnmaonampilmoaaW.PrintMore
attribute [local go_sem] max2_int min2_int max_two min_two max_three min_three max_four min_four   -- for this text's walks alone
set_option linter.unusedVariables false
set_option linter.unusedSimpArgs false

/-- the heap behind a store -/
def hpS (W : World) (p : Addr) (v : Value) (k : Nat) : Option Obj := (W.setCell p v).heap[k]?
theorem exch_same {w : World} {a : Addr} {u v : Value} (h : w.cell? a = some u) : (w.setCell a v).cell? a = some v := World.cell?_setCell_same _ _ _ h
theorem exch_cells {w : World} {base g n c : Nat} {ok : Nat → Prop} {xs : List Int} (h : Kd.R (Kd.int .i64) 3 w base ok (.slice (some ⟨g, 0, none⟩) n c) xs) (hp : 0 < xs.length) : ∃ cur : Array Value, w.heap[g]? = some (.cells cur 3 (0, 0)) ∧ xs.length ≤ cur.size ∧ cur.size = c ∧ c ≤ maxLen := by
  obtain ⟨_, inner, ho, hr⟩ := h
  obtain ⟨ho1, ho2⟩ := ho
  rcases ho2 with ⟨e, _⟩ | ⟨g', cap, cur, e, hg, hh, hrow⟩
  · injection e with e1; cases e1
  · injection e with e1 e2 e3
    injection e1 with e1
    injection e1 with e1
    subst e1
    obtain ⟨h1, h2, h3, _⟩ := hrow
    have h3 : cur.size = cap * 1 := h3
    subst e3
    exact ⟨cur, hh, by omega, by omega, h2⟩
theorem exch_row {w48 W : World} {p : Addr} {v : Value} {gr n cr : Nat} (hE : ∀ k : Nat, w48.heap[k]? = hpS W p v k) (hK : ∃ cur : Array Value, W.heap[gr]? = some (.cells cur 3 (0, 0)) ∧ n ≤ cur.size ∧ cur.size = cr ∧ cr ≤ maxLen) (hne : p.block ≠ gr) : ∃ cur : Array Value, w48.heap[gr]? = some (.cells cur 3 (0, 0)) ∧ n ≤ cur.size ∧ cur.size = cr ∧ cr ≤ maxLen := by
  obtain ⟨cur, h1, h2⟩ := hK
  exact ⟨cur, by rw [hE, hpS, Below.heap_setCell W p v gr (Ne.symm hne)]; exact h1, h2⟩
theorem exch_some {w : World} {A : Option Addr} {l : List Int} {n : Nat} (h : Kd.C (Kd.int .i64) w A n l) (hp : 0 < l.length) : ∃ ad, A = some ad := by
  obtain ⟨h1, _, h2⟩ := h
  obtain ⟨ad, e, _⟩ := h2 (by omega)
  exact ⟨ad, e⟩
theorem exch_src {w w1 : World} {ad : Addr} {l : List Int} {n : Nat} (h : Kd.C (Kd.int .i64) w (some ad) n l) (hb : Below w.heap.size w w1) : ∀ j v, (nums .i64 l)[j]? = some v → w1.cell? (ad.add j) = some v := by
  intro j v hj
  obtain ⟨h1, _, h2⟩ := Kd.C_below h hb
  have hl : j < l.length := by have := (List.getElem?_eq_some_iff.1 hj).1; simpa [nums] using this
  obtain ⟨ad', e, h3⟩ := h2 (by omega)
  injection e with e; subst e
  obtain ⟨c, hc, hk, hx⟩ := h3 j l[j] (List.getElem?_eq_getElem hl)
  have hk : c = [.int .i64 l[j]] := hk
  subst hk
  have := hx 0 _ rfl
  rw [show j * (Kd.int .i64).sz + 0 = j from Nat.mul_one j] at this
  rw [this, ← hj]
  simp [nums, hl]
theorem exch_one {l : List Int} : ∀ v ∈ nums .i64 l, v.oneCell' = true := by
  intro v hv
  obtain ⟨x, _, rfl⟩ := List.mem_map.1 hv
  rfl
theorem exch_copy {P : Program} {ops : Array Oper} {o : Oper} {a : Act} {w : World} {K : Act → World → Prop} {Q : Exit → Act → World → Prop} {E : Prop} (hgd : o.guard = none) (d s : Operand) (dT sT : TypeId)
    (ho : o.op = .call { callee := .builtin .copy, args := #[d, s], argTypes := #[dT, sT] }) (elem : TypeId) (hu : P.underlying dT = some (.slice elem)) (hsz : (P.info? elem).map (·.size) = some 1)
    (dLen dCap sLen sCap g : Nat) (ad : Addr) (hd : a.eval d = .slice (some ⟨g, 0, none⟩) dLen dCap) (hs : a.eval s = .slice (some ad) sLen sCap)
    (cur : Array Value) (t : TypeId) (hg : w.heap[g]? = some (.cells cur t (0, 0))) (cs : List Value) (hn : cs.length = Nat.min sLen dLen)
    (hsrc : ∀ j v, cs[j]? = some v → w.cell? (ad.add j) = some v) (hfit : 0 + cs.length ≤ cur.size) (h1 : ∀ v ∈ cs, v.oneCell' = true)
    (h : K (a.put o.dst (goInt cs.length)) (w.setRow g (cur.toList.take 0 ++ (cs ++ cur.toList.drop (0 + cs.length))).toArray)) :
    if Region.wanted o (yielded ops a.tmps) = true then Oper.wp P o a w K Q else E := by
  have hw : Region.wanted o (yielded ops a.tmps) = true := by simp [Region.wanted, hgd]
  rw [if_pos hw]
  have hrun := run_copy_row (P := P) w dT sT o.type elem g 0 dLen dCap ad sLen sCap cur t cs hu hsz hg hn hsrc hfit h1
  unfold Oper.wp
  have h' : K (a.put o.dst (goInt cs.length)) (w.setRow g (cs ++ cur.toList.drop cs.length).toArray) := by simpa using h
  simp [execOp, ho, resolve, invoke, builtin, hd, hs, hrun, Result.andThen]
  exact h'
theorem exch_R {u : World} {base g zl c : Nat} {l : List Int} {rest : List Value} {cur : List Value} (hz : zl = l.length) (hg : u.heap[g]? = some (.cells cur.toArray 3 (0, 0))) (hb : base ≤ g) (he : cur = nums .i64 l ++ rest) (hc : l.length ≤ c) (hcm : c ≤ maxLen) (hm : l.length ≤ 9223372036854775807) (hs : cur.length = c) : Kd.R (Kd.int .i64) 3 u base (fun k_ => k_ = g) (.slice (some ⟨g, 0, none⟩) zl c) l := by
  subst hz
  refine ⟨fun k hk => by injection hk with hk; exact hk.symm, nums .i64 l, ⟨by rw [nums_length]; exact (Nat.mul_one _).symm, .inr ⟨g, c, cur.toArray, rfl, hb, hg, hc, hcm, by rw [← hs]; exact (Nat.mul_one _).symm, ?_⟩⟩, ?_⟩
  · subst he
    show List.take (l.length * 1) (nums .i64 l ++ rest) = nums .i64 l
    rw [Nat.mul_one, ← nums_length .i64 l, List.take_left]
  · refine ⟨by rw [nums_length]; exact (Nat.mul_one _).symm, fun j x hj => ?_⟩
    show _ = _
    have hl : j < l.length := (List.getElem?_eq_some_iff.1 hj).1
    have e : (nums .i64 l)[j]? = some (.int .i64 x) := by simp [nums, hj]
    rw [show j * (Kd.int .i64).sz = j from Nat.mul_one j, show (Kd.int .i64).sz = 1 from rfl, List.take_one, List.head?_drop, e]
    rfl
theorem exch_copied {W w48 : World} {base go gr co cr zl : Nat} {ok : Nat → Prop} {xs : List (List Int)} {ys : List Int} {v : Value} {cur : Array Value}
    (hX : Kd.S (Kd.slice 3 (Kd.int .i64)) 22 W base (fun k_ => ok k_ ∧ k_ ≠ gr) (.slice (some ⟨go, 0, none⟩) xs.length co) xs) (i : Int) (h0 : 0 ≤ i) (h1 : i < (xs.length : Int))
    (hv : v = .slice (some ⟨gr, 0, none⟩) zl cr) (hz : zl = ys.length) (hc : zl ≤ cr) (hm : ys.length ≤ 9223372036854775807) (hokr : ok gr) (hgr : base ≤ gr) (hcm : cr ≤ maxLen) (hcz : cur.size = cr) (hne : go ≠ gr)
    (hE : ∀ k : Nat, w48.heap[k]? = hpS W ⟨go, i.toNat, none⟩ v k) (hg : w48.heap[gr]? = some (.cells cur 3 (0, 0))) :
    Kd.S (Kd.slice 3 (Kd.int .i64)) 22 (w48.setRow gr (cur.toList.take 0 ++ (nums .i64 ys ++ cur.toList.drop (0 + (nums .i64 ys).length))).toArray) base ok (.slice (some ⟨go, 0, none⟩) xs.length co) (xs.set i.toNat ys) := by
  obtain ⟨rw_, hrw⟩ : ∃ r : List Value, r = nums .i64 ys ++ cur.toList.drop (0 + (nums .i64 ys).length) := ⟨_, rfl⟩
  have e0 : cur.toList.take 0 ++ (nums .i64 ys ++ cur.toList.drop (0 + (nums .i64 ys).length)) = rw_ := by rw [hrw]; rfl
  rw [e0]
  have hgW : W.heap[gr]? = some (.cells cur 3 (0, 0)) := by rw [← hg, hE, hpS, Below.heap_setCell W _ v gr (Ne.symm hne)]
  have hu := setRow_heap W gr cur rw_.toArray 3 (0, 0) hgW
  have X1 : Kd.S (Kd.slice 3 (Kd.int .i64)) 22 (W.setRow gr rw_.toArray) base (fun k_ => ok k_ ∧ ¬ (k_ = gr)) (.slice (some ⟨go, 0, none⟩) xs.length co) xs := Kd.S_mono (Kd.S_step hX (fun k hk _ => setRow_other W gr k _ hk.2)) (fun _ hk => hk)
  obtain ⟨oki, ce, hcl, hM, hcc, hfr, hoki, hH⟩ := Kd.S_elem X1 [] i h0 h1
  have HP := (Kd.S_seg (okg := fun k_ => k_ = gr) hH h0 h1 (seg := [v]) (j := 0) (show 1 ≤ 1 from by decide) (x' := ys) (okp := fun k_ => k_ = gr) (by
    obtain ⟨vv, rfl, _⟩ := hM
    exact ⟨v, rfl, by subst hv; exact exch_R (hz := hz) hu hgr hrw (by omega) hcm hm (by rw [hrw, List.length_append, nums_length, List.length_drop]; have z_ : cur.toList.length = cur.size := Array.length_toList; omega)⟩) (fun _ hk => Or.inr hk) (fun k_ hk => by rw [hk]; exact ⟨hokr, Ne.symm hne⟩)).1
  refine Kd.S_step HP (fun k _ _ => ?_)
  rw [show i.toNat * (Kd.slice 3 (Kd.int .i64)).sz + 0 = i.toNat from Nat.mul_one _]
  show (w48.setRow gr rw_.toArray).heap[k]? = ((W.setRow gr rw_.toArray).setCell ⟨go, i.toNat, none⟩ v).heap[k]?
  by_cases hk : k = gr
  · subst hk
    rw [Below.heap_setCell _ _ v k (Ne.symm hne), hu]
    exact setRow_heap w48 k cur rw_.toArray 3 (0, 0) hg
  · rw [setRow_other w48 gr k _ hk, hE]
    unfold hpS World.setCell World.setRow
    simp [Array.getElem?_modify, Ne.symm hk]
def lure_Exchange.l0 : Nat → List Int → Int → Int → List Int → List (List Int) → List Int → List (List Int) → Option (List Int × (List (List Int)) × Int)
  | 0, _, _, _, _, _, _, _ => none
  | k + 1, x24, x25, x26, x212000, x212001, x221000, x221001 => if x26 < x25 then (if 0 ≤ x26 then (if x26 < (x24.length : Int) then (if x26 < (x221000.length : Int) then (if x26 < (x212001.length : Int) then (if 0 ≤ ((rd_L1 x212001 x26).length : Int) then (if (((rd_L1 x212001 x26).length : Int) : Int).toNat ≤ 35184372088832 then (if x26 < (x221001.length : Int) then (if 0 < (rd_L1 x212001 x26).length then (lure_Exchange.l0 k x24 x25 (wrap64 (x26 + 1)) x212000 x212001 (x221000.set (x26 : Int).toNat (wrap64 (1 - (rd x24 x26)))) (x221001.set (x26 : Int).toNat (rd_L1 x212001 x26))) else (none)) else (none)) else (none)) else (none)) else (none)) else (none)) else (none)) else (none)) else (some (x221000, x221001, 0))
def lure_Exchange.f (k : Nat) (l0_0 : List Int) (l0_1 : List (List Int)) : Option (List Int × (List (List Int)) × Int) := (lure_Validate.f k l0_0 l0_1).bind fun t213 => (if t213 = 0 then (if 0 ≤ (l0_0.length : Int) then (if ((l0_0.length : Int) : Int).toNat ≤ 35184372088832 then (if 0 ≤ (l0_1.length : Int) then (if ((l0_1.length : Int) : Int).toNat ≤ 11728124029610 then (lure_Exchange.l0 k l0_0 (l0_0.length : Int) 0 l0_0 l0_1 (List.replicate ((l0_0.length : Int) : Int).toNat 0) (List.replicate ((l0_1.length : Int) : Int).toNat [])) else (none)) else (none)) else (none)) else (none)) else (some (([] : List Int), ([] : List (List Int)), t213)))
def lure_Exchange.T4 : Bool × List (List Nat × List Nat) := (true, [([], []), ([0], [0]), ([1], [1]), ([2, 2], [2]), ([], []), ([4], [4]), ([5], [5]), ([6, 6], [6]), ([3, 7], [3, 7]), ([], []), ([9, 8, 0, 1, 2, 3, 4, 5, 6, 7, 8, 9], [8, 9])])
def lure_Exchange.B4 : List Nat := [0, 1, 3, 7, 0, 16, 48, 112, 255, 0, 1023]
theorem lure_Exchange.tab4 : rtab .any (opsOf Try.f44 4) = lure_Exchange.T4 := by kernel_rfl
theorem lure_Exchange.bits4 : waitsOk lure_Exchange.T4.2 lure_Exchange.B4 = true := by kernel_rfl
def lure_Exchange.T9 : Bool × List (List Nat × List Nat) := (true, [([], []), ([0], [0]), ([], []), ([], []), ([3], [3]), ([], []), ([4, 5], [4, 5]), ([6], [6]), ([7], [7]), ([8, 8], [8]), ([1, 2, 0, 1, 2, 3, 4, 5, 6, 7, 8, 9], [1, 2]), ([10, 9, 0, 1, 2, 3, 4, 5, 6, 7, 8, 9], [9, 10])])
def lure_Exchange.B9 : List Nat := [0, 1, 0, 0, 8, 0, 56, 120, 248, 504, 1023, 2047]
theorem lure_Exchange.tab9 : rtab .any (opsOf Try.f44 9) = lure_Exchange.T9 := by kernel_rfl
theorem lure_Exchange.bits9 : waitsOk lure_Exchange.T9.2 lure_Exchange.B9 = true := by kernel_rfl
def lure_Exchange.T10 : Bool × List (List Nat × List Nat) := (true, [([], []), ([0], [0]), ([], []), ([1, 2], [1, 2]), ([3], [3]), ([], []), ([5], [5]), ([], []), ([6, 7], [6, 7]), ([8], [8]), ([4, 9], [4, 9])])
def lure_Exchange.B10 : List Nat := [0, 1, 0, 7, 15, 0, 32, 0, 224, 480, 1023]
theorem lure_Exchange.tab10 : rtab .any (opsOf Try.f44 10) = lure_Exchange.T10 := by kernel_rfl
theorem lure_Exchange.bits10 : waitsOk lure_Exchange.T10.2 lure_Exchange.B10 = true := by kernel_rfl
set_option maxHeartbeats 8000000 in
set_option maxRecDepth 100000 in
theorem lure_Exchange.calls0 (k : Nat) (A0_0 : Option Addr) (c0_0 : Nat) (l0_0 : List Int) (A0_1 : Option Addr) (c0_1 : Nat) (l0_1 : List (List Int)) (r1 : List Int) (r2 : List (List Int)) (r3 : Int) (w : World) (hr0_0 : Kd.C (Kd.int .i64) w A0_0 l0_0.length l0_0) (hc0_0 : l0_0.length ≤ c0_0) (hr0_1 : Kd.C (Kd.slice 3 (Kd.int .i64)) w A0_1 l0_1.length l0_1) (hc0_1 : l0_1.length ≤ c0_1) (h : lure_Exchange.f k l0_0 l0_1 = some (r1, r2, r3)) :
    Calls Try.prog 44 #[.agg #[.slice A0_0 l0_0.length c0_0, .slice A0_1 l0_1.length c0_1]] w fun e w' => ∃ v0_ v1_ : Value, e = .returned (.tuple #[.agg #[v0_, v1_], .int .i64 r3]) ∧ Kd.R (Kd.int .i64) 3 w' w.heap.size (fun k_ => (w.heap.size ≤ k_)) v0_ r1 ∧ Kd.S (Kd.slice 3 (Kd.int .i64)) 22 w' w.heap.size (fun k_ => (w.heap.size ≤ k_) ∧ some k_ ≠ (v0_ : Value).ownBlock) v1_ r2 ∧ Below w.heap.size w w' := by
  have hu25 := Try.underlying25
  have HR0_0 := Aside0.mk hr0_0
  have HC0_0 := Aside0.mk hc0_0
  clear hr0_0 hc0_0
  have HR0_1 := Aside0.mk hr0_1
  have HC0_1 := Aside0.mk hc0_1
  clear hr0_1 hc0_1
  have HB := Aside0.mk (Below.refl w.heap.size w)
  have H : ((lure_Validate.f k l0_0 l0_1).bind fun t213 => (if t213 = 0 then (if 0 ≤ (l0_0.length : Int) then (if ((l0_0.length : Int) : Int).toNat ≤ 35184372088832 then (if 0 ≤ (l0_1.length : Int) then (if ((l0_1.length : Int) : Int).toNat ≤ 11728124029610 then (lure_Exchange.l0 k l0_0 (l0_0.length : Int) 0 l0_0 l0_1 (List.replicate ((l0_0.length : Int) : Int).toNat 0) (List.replicate ((l0_1.length : Int) : Int).toNat [])) else (none)) else (none)) else (none)) else (none)) else (some (([] : List Int), ([] : List (List Int)), t213)))) = some (r1, r2, r3) := h
  clear h
  replace H := Option.bind_eq_some_iff.mp H
  obtain ⟨t213, A20, H⟩ := H
  replace H : (if t213 = 0 then (if 0 ≤ (l0_0.length : Int) then (if ((l0_0.length : Int) : Int).toNat ≤ 35184372088832 then (if 0 ≤ (l0_1.length : Int) then (if ((l0_1.length : Int) : Int).toNat ≤ 11728124029610 then (lure_Exchange.l0 k l0_0 (l0_0.length : Int) 0 l0_0 l0_1 (List.replicate ((l0_0.length : Int) : Int).toNat 0) (List.replicate ((l0_1.length : Int) : Int).toNat [])) else (none)) else (none)) else (none)) else (none)) else (some (([] : List Int), ([] : List (List Int)), t213))) = some (r1, r2, r3) := H
  have A2 := Aside0.mk A20
  clear A20
  by_cases c3 : t213 = 0
  · rw [if_pos c3] at H
    have c3b0 : (t213 == 0) = true := beq_iff_eq.mpr c3
    have c3b1 : (t213 != 0) = false := bne_eq_false_iff_eq.mpr c3
    clear c3
    by_cases c4 : 0 ≤ (l0_0.length : Int)
    · rw [if_pos c4] at H
      have c4b0 := eq_true c4
      have c4b1 : decide (0 ≤ (l0_0.length : Int)) = true := decide_eq_true c4
      clear c4
      by_cases c5 : ((l0_0.length : Int) : Int).toNat ≤ 35184372088832
      · rw [if_pos c5] at H
        have c5b0 := eq_true c5
        have c5b1 : decide (((l0_0.length : Int) : Int).toNat ≤ 35184372088832) = true := decide_eq_true c5
        clear c5
        obtain ⟨y214, hy214⟩ : ∃ y_ : List Int, y_ = (List.replicate ((l0_0.length : Int) : Int).toNat 0) := ⟨_, rfl⟩
        replace H : (if 0 ≤ (l0_1.length : Int) then (if ((l0_1.length : Int) : Int).toNat ≤ 11728124029610 then (lure_Exchange.l0 k l0_0 (l0_0.length : Int) 0 l0_0 l0_1 y214 (List.replicate ((l0_1.length : Int) : Int).toNat [])) else (none)) else (none)) = some (r1, r2, r3) := by first | (rw [hy214]; with_reducible exact H) | (have H2_ := (Option.bind_some _ _).symm.trans H; rw [hy214]; with_reducible exact H2_) | (have H2_ := (Option.bind_some _ _).symm.trans H; with_reducible exact H2_) | with_reducible exact H | (rw [hy214]; exact H) | exact H
        have Ny214 := Aside0.mk hy214
        clear hy214
        by_cases c6 : 0 ≤ (l0_1.length : Int)
        · rw [if_pos c6] at H
          have c6b0 := eq_true c6
          have c6b1 : decide (0 ≤ (l0_1.length : Int)) = true := decide_eq_true c6
          clear c6
          by_cases c7 : ((l0_1.length : Int) : Int).toNat ≤ 11728124029610
          · rw [if_pos c7] at H
            have c7b0 := eq_true c7
            have c7b1 : decide (((l0_1.length : Int) : Int).toNat ≤ 11728124029610) = true := decide_eq_true c7
            clear c7
            obtain ⟨y217, hy217⟩ : ∃ y_ : List (List Int), y_ = (List.replicate ((l0_1.length : Int) : Int).toNat []) := ⟨_, rfl⟩
            replace H : (lure_Exchange.l0 k l0_0 (l0_0.length : Int) 0 l0_0 l0_1 y214 y217) = some (r1, r2, r3) := by first | (rw [hy217]; with_reducible exact H) | (have H2_ := (Option.bind_some _ _).symm.trans H; rw [hy217]; with_reducible exact H2_) | (have H2_ := (Option.bind_some _ _).symm.trans H; with_reducible exact H2_) | with_reducible exact H | (rw [hy217]; exact H) | exact H
            have Ny217 := Aside0.mk hy217
            clear hy217
            have H' := Aside0.mk H
            clear H
            go_enter Try.func44, Try.ntmps44
            try go_wp2_with (first | ((with_reducible refine gate_dst (N := 1) rfl ?_); refine box_event ?hg (N := 1) ?hd (cs := #[.slice A0_0 l0_0.length c0_0, .slice A0_1 l0_1.length c0_1]) (t := 25) ?hr ?_; (case hd => rfl); (case hg => rfl); (case hr => first | (go_simp; done) | (go_simp; rfl)); intro gb211 hg w8 hbox hb; have n0_ := Aside0.mk (below_step (by repeat (first | (with_reducible first | exact HB.out | apply below_alloc | apply pw_below_drewN | apply below_drew1) | exact HB.out)) hb); have n1_ := Aside0.mk (hbox); have n2_ := Aside0.mk ((by rw [hg]; exact (below_size (by repeat (first | (with_reducible first | exact HB.out | apply below_alloc | apply pw_below_drewN | apply below_drew1) | exact HB.out))) : w.heap.size ≤ gb211)); have n3_ := Aside0.mk ((by rw [hg]; exact (below_size (by repeat (first | (with_reducible first | exact HB.out | apply below_alloc | apply pw_below_drewN | apply below_drew1) | exact HB.out))) : w.heap.size ≤ gb211)); clear HB; have HB := n0_; have BK211 := n1_; have GW211 := n2_; have GE211 := n3_; clear n0_ n1_ n2_ n3_; clear hb hbox hg) | ((with_reducible refine gate_dst (N := 2) rfl ?_); refine box_event ?hg (N := 2) ?hd (cs := #[.slice none 0 0, .slice none 0 0]) (t := 25) ?hr ?_; (case hd => rfl); (case hg => rfl); (case hr => first | (go_simp; done) | (go_simp; rfl)); intro gb212 hg w9 hbox hb; have n0_ := Aside0.mk (blk_below (g := gb211) (o := .cells #[.slice A0_0 l0_0.length c0_0, .slice A0_1 l0_1.length c0_1] 25 (0, 0)) (by (with_reducible repeat (first | refine blk_drewN ?_ _ | refine blk_drew ?_ | refine blk_alloc ?_ _)); exact BK211.out) hb); have n1_ := Aside0.mk (below_step (by repeat (first | (with_reducible first | exact HB.out | apply below_alloc | apply pw_below_drewN | apply below_drew1 | refine below_set ?_ GE211.out) | exact HB.out)) hb); have n2_ := Aside0.mk (hbox); have n3_ := Aside0.mk ((by rw [hg]; exact (below_size (by repeat (first | (with_reducible first | exact HB.out | apply below_alloc | apply pw_below_drewN | apply below_drew1 | refine below_set ?_ GE211.out) | exact HB.out))) : w.heap.size ≤ gb212)); have n4_ := Aside0.mk ((by rw [hg]; exact (below_size (by repeat (first | (with_reducible first | exact HB.out | apply below_alloc | apply pw_below_drewN | apply below_drew1 | refine below_set ?_ GE211.out) | exact HB.out))) : w.heap.size ≤ gb212)); have n5_ := Aside0.mk ((by rw [hg]; exact Nat.ne_of_lt (blk_lt (g := gb211) (o := .cells #[.slice A0_0 l0_0.length c0_0, .slice A0_1 l0_1.length c0_1] 25 (0, 0)) (by (with_reducible repeat (first | refine blk_drewN ?_ _ | refine blk_drew ?_ | refine blk_alloc ?_ _)); exact BK211.out)) : gb211 ≠ gb212)); have n6_ := Aside0.mk ((by rw [hg]; exact Nat.ne_of_gt (blk_lt (g := gb211) (o := .cells #[.slice A0_0 l0_0.length c0_0, .slice A0_1 l0_1.length c0_1] 25 (0, 0)) (by (with_reducible repeat (first | refine blk_drewN ?_ _ | refine blk_drew ?_ | refine blk_alloc ?_ _)); exact BK211.out)) : gb212 ≠ gb211)); clear BK211; clear HB; have BK211 := n0_; have HB := n1_; have BK212 := n2_; have GW212 := n3_; have GE212 := n4_; have NB211_212 := n5_; have NB212_211 := n6_; clear n0_ n1_ n2_ n3_ n4_ n5_ n6_; clear hb hbox hg; have hnb10 := NB211_212.out; have hnc10 := NB212_211.out; have hcz11_0 : w9.cell? ⟨gb211, 0, none⟩ = some (.slice A0_0 l0_0.length c0_0) := (blk_cell BK211.out 0).trans rfl; have hcz11_1 : w9.cell? ⟨gb211, 1, none⟩ = some (.slice A0_1 l0_1.length c0_1) := (blk_cell BK211.out 1).trans rfl; have hfz11_0 := blk_frozen BK211.out 0; have hfz11_1 := blk_frozen BK211.out 1) | ((with_reducible refine gate_callee (f := 28) rfl ?_); refine goesL_ (some 9) rfl rfl Try.func28 (by kernel_rfl) rfl #[.agg #[.slice A0_0 l0_0.length c0_0, .slice A0_1 l0_1.length c0_1]] rfl (by (try simp only [List.map_toArray, List.map_cons, List.map_nil]); first | done | rfl | (simp only [List.length_drop, List.length_take]; rfl)) ?_; (with_reducible refine (lure_Validate.calls k _ _ l0_0 _ _ l0_1 t213 _ ?side1 ?side2 ?side3 ?side4 A2.out).mono ?_); (case side1 => repeat (first | exact (Kd.C_below HR0_0.out HB.out) | (with_reducible refine Kd.C_alloc ?_ _) | (with_reducible refine Kd.C_drewN ?_ _) | (with_reducible refine Kd.C_drew ?_))); (case side2 => exact HC0_0.out); (case side3 => repeat (first | exact (Kd.C_below HR0_1.out HB.out) | (with_reducible refine Kd.C_alloc ?_ _) | (with_reducible refine Kd.C_drewN ?_ _) | (with_reducible refine Kd.C_drew ?_))); (case side4 => exact HC0_1.out); rintro e w12 ⟨rfl, hb⟩; refine ⟨_, rfl, ?_⟩; have n0_ := Aside0.mk (blk_below (g := gb211) (o := .cells #[.slice A0_0 l0_0.length c0_0, .slice A0_1 l0_1.length c0_1] 25 (0, 0)) (by (with_reducible repeat (first | refine blk_drewN ?_ _ | refine blk_drew ?_ | refine blk_alloc ?_ _)); exact BK211.out) hb); have n1_ := Aside0.mk (blk_below (g := gb212) (o := .cells #[.slice none 0 0, .slice none 0 0] 25 (0, 0)) (by (with_reducible repeat (first | refine blk_drewN ?_ _ | refine blk_drew ?_ | refine blk_alloc ?_ _)); exact BK212.out) hb); have n2_ := Aside0.mk (below_step (by repeat (first | (with_reducible first | exact HB.out | apply below_alloc | apply pw_below_drewN | apply below_drew1 | refine below_set ?_ GE211.out | refine below_set ?_ GE212.out) | exact HB.out)) hb); clear BK211; clear BK212; clear HB; have BK211 := n0_; have BK212 := n1_; have HB := n2_; clear n0_ n1_ n2_; (try clear hb); (try clear hb2); (try clear hk); (try clear hi)))
            have n0_ := Aside0.mk (blk_drew BK211.out)
            have n1_ := Aside0.mk (blk_drew BK212.out)
            have n2_ := Aside0.mk (below_drew1 HB.out)
            clear BK211
            clear BK212
            clear HB
            have BK211 := n0_
            have BK212 := n1_
            have HB := n2_
            clear n0_ n1_ n2_
            refine start_ (n := 11) (S := fun w' => w'.cell? ⟨gb211, 0, none⟩ = some (.slice A0_0 l0_0.length c0_0) ∧ w'.cell? ⟨gb211, 1, none⟩ = some (.slice A0_1 l0_1.length c0_1)) (ds := []) #[false, false, false, false, false, false, false, false, false, false, false] (by kernel_rfl) rfl rfl ⟨(blk_cell BK211.out 0).trans rfl, (blk_cell BK211.out 1).trans rfl⟩ (fun hHeld => ?_); refine with_tabW lure_Exchange.tab4 lure_Exchange.bits4 (fun HT_ HW_ => ?_)
            generalize w12.drew = w13 at BK211 BK212 HB hHeld ⊢
            refine pure_ (i := 0) (N := some 14) (v := ?_) (a' := ?_) #[true, false, false, false, false, false, false, false, false, false, false] rfl rfl (any_of HT_.out (by kernel_rfl)) (fun _ _ _ h => h) (Or.inl ⟨by rfl, ?_⟩) ?_ ?_
            rotate_left
            · intro w'
              go_simp
              with_reducible rfl
            rotate_left
            · simp only [Act.put, List.setIfInBounds_toArray, List.set_cons_zero, List.set_cons_succ, i64_w, i32_w]
              rfl
            refine pure_ (i := 4) (N := some 18) (v := ?_) (a' := ?_) #[true, false, false, false, true, false, false, false, false, false, false] rfl rfl (any_of HT_.out (by kernel_rfl)) (fun _ _ _ h => h) (Or.inl ⟨by rfl, ?_⟩) ?_ ?_
            rotate_left
            · intro w'
              go_simp
              with_reducible rfl
            rotate_left
            · simp only [Act.put, List.setIfInBounds_toArray, List.set_cons_zero, List.set_cons_succ, i64_w, i32_w]
              rfl
            refine take_ (i := 1) (N := some 15) (v := ?_) (a' := ?_) #[true, true, false, false, true, false, false, false, false, false, false] rfl rfl (take_ofW HT_.out HW_.out (by kernel_rfl)) (fun _ _ _ h => h) (Or.inl ⟨by rfl, ?_⟩) hHeld ?_ ?_
            rotate_left
            · rintro w' ⟨s0, s1⟩
              go_simp
              with_reducible rfl
            rotate_left
            · simp only [Act.put, List.setIfInBounds_toArray, List.set_cons_zero, List.set_cons_succ, i64_w, i32_w]
              rfl
            refine pure_ (i := 2) (N := some 16) (v := ?_) (a' := ?_) #[true, true, true, false, true, false, false, false, false, false, false] rfl rfl (any_of HT_.out (by kernel_rfl)) (fun _ _ _ h => h) (Or.inl ⟨by rfl, ?_⟩) ?_ ?_
            rotate_left
            · intro w'
              go_simp
              with_reducible rfl
            rotate_left
            · simp only [Act.put, List.setIfInBounds_toArray, List.set_cons_zero, List.set_cons_succ, i64_w, i32_w]
              rfl
            refine take_ (i := 5) (N := some 19) (v := ?_) (a' := ?_) #[true, true, true, false, true, true, false, false, false, false, false] rfl rfl (take_ofW HT_.out HW_.out (by kernel_rfl)) (fun _ _ _ h => h) (Or.inl ⟨by rfl, ?_⟩) hHeld ?_ ?_
            rotate_left
            · rintro w' ⟨s0, s1⟩
              go_simp
              with_reducible rfl
            rotate_left
            · simp only [Act.put, List.setIfInBounds_toArray, List.set_cons_zero, List.set_cons_succ, i64_w, i32_w]
              rfl
            refine pure_ (i := 6) (N := some 20) (v := ?_) (a' := ?_) #[true, true, true, false, true, true, true, false, false, false, false] rfl rfl (any_of HT_.out (by kernel_rfl)) (fun _ _ _ h => h) (Or.inl ⟨by rfl, ?_⟩) ?_ ?_
            rotate_left
            · intro w'
              go_simp
              with_reducible rfl
            rotate_left
            · simp only [Act.put, List.setIfInBounds_toArray, List.set_cons_zero, List.set_cons_succ, i64_w, i32_w]
              rfl
            refine join_ (σ := Value × Value × Nat) 1 #[true, true, true, true, true, true, true, true, true, true, false] (fun s_ => [(17, s_.1), (21, s_.2.1), (5, .pointer (some ⟨s_.2.2, 0, none⟩)), (22, .agg #[s_.1, s_.2.1])]) (fun s_ w' => (w'.cell? ⟨gb211, 0, none⟩ = some (.slice A0_0 l0_0.length c0_0) ∧ w'.cell? ⟨gb211, 1, none⟩ = some (.slice A0_1 l0_1.length c0_1)) ∧ (Kd.R (Kd.int .i64) 3 w' w.heap.size (fun k_ => (w.heap.size ≤ k_)) s_.1 y214) ∧ (Kd.S (Kd.slice 3 (Kd.int .i64)) 22 w' w.heap.size (fun k_ => (w.heap.size ≤ k_) ∧ some k_ ≠ (s_.1 : Value).ownBlock ∧ k_ ≠ gb211 ∧ k_ ≠ gb212 ∧ k_ ≠ s_.2.2) s_.2.1 y217) ∧ (w'.heap[gb211]? = some (.cells #[.slice A0_0 l0_0.length c0_0, .slice A0_1 l0_1.length c0_1] 25 (0, 0))) ∧ (w'.heap[gb212]? = some (.cells #[.slice none 0 0, .slice none 0 0] 25 (0, 0))) ∧ (w'.heap[s_.2.2]? = some (.cells #[.slice none 0 0, .slice none 0 0] 25 (0, 0))) ∧ (w.heap.size ≤ s_.2.2) ∧ (w.heap.size ≤ s_.2.2) ∧ (gb211 ≠ s_.2.2) ∧ (s_.2.2 ≠ gb211) ∧ (gb212 ≠ s_.2.2) ∧ (s_.2.2 ≠ gb212) ∧ (Below w.heap.size w w')) ?_ ?_
            rotate_left
            · intro hJ3_7_9
              refine join_ (σ := Value × Value) 2 #[true, true, true, true, true, true, true, true, true, false, false] (fun s_ => [(17, s_.1), (21, s_.2), (22, .agg #[s_.1, s_.2])]) (fun s_ w' => (w'.cell? ⟨gb211, 0, none⟩ = some (.slice A0_0 l0_0.length c0_0) ∧ w'.cell? ⟨gb211, 1, none⟩ = some (.slice A0_1 l0_1.length c0_1)) ∧ (Kd.R (Kd.int .i64) 3 w' w.heap.size (fun k_ => (w.heap.size ≤ k_)) s_.1 y214) ∧ (Kd.S (Kd.slice 3 (Kd.int .i64)) 22 w' w.heap.size (fun k_ => (w.heap.size ≤ k_) ∧ some k_ ≠ (s_.1 : Value).ownBlock ∧ k_ ≠ gb211 ∧ k_ ≠ gb212) s_.2 y217) ∧ (w'.heap[gb211]? = some (.cells #[.slice A0_0 l0_0.length c0_0, .slice A0_1 l0_1.length c0_1] 25 (0, 0))) ∧ (w'.heap[gb212]? = some (.cells #[.slice none 0 0, .slice none 0 0] 25 (0, 0))) ∧ (Below w.heap.size w w')) ?_ ?_
              rotate_left
              · intro hJ3_7
                refine join_ (σ := Value × Nat) 3 #[true, true, true, true, true, true, true, false, false, true, false] (fun s_ => [(17, s_.1), (5, .pointer (some ⟨s_.2, 0, none⟩))]) (fun s_ w' => (w'.cell? ⟨gb211, 0, none⟩ = some (.slice A0_0 l0_0.length c0_0) ∧ w'.cell? ⟨gb211, 1, none⟩ = some (.slice A0_1 l0_1.length c0_1)) ∧ (Kd.R (Kd.int .i64) 3 w' w.heap.size (fun k_ => (w.heap.size ≤ k_)) s_.1 y214) ∧ (w'.heap[gb211]? = some (.cells #[.slice A0_0 l0_0.length c0_0, .slice A0_1 l0_1.length c0_1] 25 (0, 0))) ∧ (w'.heap[gb212]? = some (.cells #[.slice none 0 0, .slice none 0 0] 25 (0, 0))) ∧ (w'.heap[s_.2]? = some (.cells #[.slice none 0 0, .slice none 0 0] 25 (0, 0))) ∧ (w.heap.size ≤ s_.2) ∧ (w.heap.size ≤ s_.2) ∧ (gb211 ≠ s_.2) ∧ (s_.2 ≠ gb211) ∧ (gb212 ≠ s_.2) ∧ (s_.2 ≠ gb212) ∧ (Below w.heap.size w w')) ?_ ?_
                rotate_left
                · intro hJ3_9
                  refine join_ (σ := Value × Nat) 3 #[true, true, true, false, true, true, true, true, false, true, false] (fun s_ => [(21, s_.1), (5, .pointer (some ⟨s_.2, 0, none⟩))]) (fun s_ w' => (w'.cell? ⟨gb211, 0, none⟩ = some (.slice A0_0 l0_0.length c0_0) ∧ w'.cell? ⟨gb211, 1, none⟩ = some (.slice A0_1 l0_1.length c0_1)) ∧ (Kd.S (Kd.slice 3 (Kd.int .i64)) 22 w' w.heap.size (fun k_ => (w.heap.size ≤ k_) ∧ k_ ≠ gb211 ∧ k_ ≠ gb212 ∧ k_ ≠ s_.2) s_.1 y217) ∧ (w'.heap[gb211]? = some (.cells #[.slice A0_0 l0_0.length c0_0, .slice A0_1 l0_1.length c0_1] 25 (0, 0))) ∧ (w'.heap[gb212]? = some (.cells #[.slice none 0 0, .slice none 0 0] 25 (0, 0))) ∧ (w'.heap[s_.2]? = some (.cells #[.slice none 0 0, .slice none 0 0] 25 (0, 0))) ∧ (w.heap.size ≤ s_.2) ∧ (w.heap.size ≤ s_.2) ∧ (gb211 ≠ s_.2) ∧ (s_.2 ≠ gb211) ∧ (gb212 ≠ s_.2) ∧ (s_.2 ≠ gb212) ∧ (Below w.heap.size w w')) ?_ ?_
                  rotate_left
                  · intro hJ7_9
                    refine join_ (σ := Value) 4 #[true, true, true, true, true, true, true, false, false, false, false] (fun s_ => [(17, s_)]) (fun s_ w' => (w'.cell? ⟨gb211, 0, none⟩ = some (.slice A0_0 l0_0.length c0_0) ∧ w'.cell? ⟨gb211, 1, none⟩ = some (.slice A0_1 l0_1.length c0_1)) ∧ (Kd.R (Kd.int .i64) 3 w' w.heap.size (fun k_ => (w.heap.size ≤ k_)) s_ y214) ∧ (w'.heap[gb211]? = some (.cells #[.slice A0_0 l0_0.length c0_0, .slice A0_1 l0_1.length c0_1] 25 (0, 0))) ∧ (w'.heap[gb212]? = some (.cells #[.slice none 0 0, .slice none 0 0] 25 (0, 0))) ∧ (Below w.heap.size w w')) ?_ ?_
                    rotate_left
                    · intro hJ3
                      refine join_ (σ := Value) 4 #[true, true, true, false, true, true, true, true, false, false, false] (fun s_ => [(21, s_)]) (fun s_ w' => (w'.cell? ⟨gb211, 0, none⟩ = some (.slice A0_0 l0_0.length c0_0) ∧ w'.cell? ⟨gb211, 1, none⟩ = some (.slice A0_1 l0_1.length c0_1)) ∧ (Kd.S (Kd.slice 3 (Kd.int .i64)) 22 w' w.heap.size (fun k_ => (w.heap.size ≤ k_) ∧ k_ ≠ gb211 ∧ k_ ≠ gb212) s_ y217) ∧ (w'.heap[gb211]? = some (.cells #[.slice A0_0 l0_0.length c0_0, .slice A0_1 l0_1.length c0_1] 25 (0, 0))) ∧ (w'.heap[gb212]? = some (.cells #[.slice none 0 0, .slice none 0 0] 25 (0, 0))) ∧ (Below w.heap.size w w')) ?_ ?_
                      rotate_left
                      · intro hJ7
                        refine join_ (σ := Nat) 4 #[true, true, true, false, true, true, true, false, false, true, false] (fun s_ => [(5, .pointer (some ⟨s_, 0, none⟩))]) (fun s_ w' => (w'.cell? ⟨gb211, 0, none⟩ = some (.slice A0_0 l0_0.length c0_0) ∧ w'.cell? ⟨gb211, 1, none⟩ = some (.slice A0_1 l0_1.length c0_1)) ∧ (w'.heap[gb211]? = some (.cells #[.slice A0_0 l0_0.length c0_0, .slice A0_1 l0_1.length c0_1] 25 (0, 0))) ∧ (w'.heap[gb212]? = some (.cells #[.slice none 0 0, .slice none 0 0] 25 (0, 0))) ∧ (w'.heap[s_]? = some (.cells #[.slice none 0 0, .slice none 0 0] 25 (0, 0))) ∧ (w.heap.size ≤ s_) ∧ (w.heap.size ≤ s_) ∧ (gb211 ≠ s_) ∧ (s_ ≠ gb211) ∧ (gb212 ≠ s_) ∧ (s_ ≠ gb212) ∧ (Below w.heap.size w w')) ?_ ?_
                        rotate_left
                        · intro hJ9
                          refine three_ (i := 3) (j := 7) (k := 9) (Ni := some 17) (Nj := some 21) (Nk := some 5) #[true, true, true, true, true, true, true, false, false, false, false] #[true, true, true, false, true, true, true, true, false, false, false] #[true, true, true, false, true, true, true, false, false, true, false] rfl rfl rfl rfl rfl rfl (three_of HT_.out (by kernel_rfl)) (by decide) (by decide) (by decide) (fun K hK => ?_) (fun K hK => ?_) (fun K hK => ?_)
                          · skip
                            refine Kd.R_make_step (Kd.int .i64) _ 3 (by rfl) (N := 17) rfl 22 _ _ rfl (l0_0.length : Int) rfl rfl Try.underlying22 (.int .i64 0) 8 info3 rfl (by decide) (by omega) 0 (ok := fun _ => True) (okp := fun _ => True) rfl (fun _ hk => hk) trivial (of_decide_eq_true (by first | (with_reducible assumption) | assumption)) (Nat.le_trans (Nat.mul_le_mul_right _ (of_decide_eq_true (by first | (with_reducible assumption) | assumption) : (l0_0.length : Int).toNat ≤ 35184372088832)) (by omega)) (Below.refl _ _) (Nat.le_refl _) ?_
                            intro v215 w14 ho15 hb hg_ hnew_
                            clear hg_ hnew_
                            (first | rw [← Ny214.out] at ho15 | (simp only [Int.reduceToNat] at ho15; rw [← Ny214.out] at ho15))
                            have n0_ := Aside0.mk (Kd.R_lower (Kd.R_newM (M := fun k_ => (w.heap.size ≤ k_)) ho15 (below_size (by repeat (first | (with_reducible first | exact HB.out | apply below_alloc | apply pw_below_drewN | apply below_drew1 | refine below_set ?_ GE211.out | refine below_set ?_ GE212.out) | exact HB.out))) (fun k_ h_ => h_)) (below_size (by repeat (first | (with_reducible first | exact HB.out | apply below_alloc | apply pw_below_drewN | apply below_drew1 | refine below_set ?_ GE211.out | refine below_set ?_ GE212.out) | exact HB.out))))
                            have n1_ := Aside0.mk (blk_below (g := gb211) (o := .cells #[.slice A0_0 l0_0.length c0_0, .slice A0_1 l0_1.length c0_1] 25 (0, 0)) (by (with_reducible repeat (first | refine blk_drewN ?_ _ | refine blk_drew ?_ | refine blk_alloc ?_ _)); exact BK211.out) hb)
                            have n2_ := Aside0.mk (blk_below (g := gb212) (o := .cells #[.slice none 0 0, .slice none 0 0] 25 (0, 0)) (by (with_reducible repeat (first | refine blk_drewN ?_ _ | refine blk_drew ?_ | refine blk_alloc ?_ _)); exact BK212.out) hb)
                            have n3_ := Aside0.mk (below_step (by repeat (first | (with_reducible first | exact HB.out | apply below_alloc | apply pw_below_drewN | apply below_drew1 | refine below_set ?_ GE211.out | refine below_set ?_ GE212.out) | exact HB.out)) hb)
                            clear BK211
                            clear BK212
                            clear HB
                            have HO216 := n0_
                            have BK211 := n1_
                            have BK212 := n2_
                            have HB := n3_
                            clear n0_ n1_ n2_ n3_
                            clear hb ho15
                            refine hK.out _ _ ⟨(blk_cell BK211.out 0).trans rfl, (blk_cell BK211.out 1).trans rfl⟩ (fun hHeld => ?_)
                            clear hK K
                            refine norm_ (a' := ?_) ?_ ?_
                            rotate_left
                            · show Act.put _ (some 17) _ = _
                              simp only [Act.put, List.setIfInBounds_toArray, List.set_cons_zero, List.set_cons_succ, i64_w, i32_w]
                              rfl
                            exact norm_ (by first | (simp only [putAll, Act.put, List.setIfInBounds_toArray, List.set_cons_zero, List.set_cons_succ]; done) | (simp only [putAll, Act.put, List.setIfInBounds_toArray, List.set_cons_zero, List.set_cons_succ]; rfl)) (hJ3 (v215) _ ⟨hHeld, (by (with_reducible repeat (first | apply Kd.R_alloc | apply Kd.R_drewN | apply Kd.R_drew)); exact Kd.R_mono HO216.out (fun _ hk => hk.1)), (by (with_reducible repeat (first | refine blk_drewN ?_ _ | refine blk_drew ?_ | refine blk_alloc ?_ _)); exact BK211.out), (by (with_reducible repeat (first | refine blk_drewN ?_ _ | refine blk_drew ?_ | refine blk_alloc ?_ _)); exact BK212.out), (by repeat (first | (with_reducible first | exact HB.out | apply below_alloc | apply pw_below_drewN | apply below_drew1 | refine below_set ?_ GE211.out | refine below_set ?_ GE212.out) | exact HB.out))⟩)
                          · skip
                            refine Kd.S_make_step (Kd.slice 3 (Kd.int .i64)) _ 22 (by rfl) (N := 21) rfl 23 _ _ rfl (l0_1.length : Int) rfl rfl Try.underlying23 (.slice none 0 0) 24 info22 rfl (by decide) (by omega) [] (ok := fun k_ => w13.heap.size ≤ k_) (okp := fun _ => False) ⟨_, rfl, Kd.R_nil _ _ _ _ _⟩ (fun _ hk => hk.elim) (Nat.le_refl _) (of_decide_eq_true (by first | (with_reducible assumption) | assumption)) (Nat.le_trans (Nat.mul_le_mul_right _ (of_decide_eq_true (by first | (with_reducible assumption) | assumption) : (l0_1.length : Int).toNat ≤ 11728124029610)) (by omega)) (Below.refl _ _) (Nat.le_refl _) ?_
                            intro v218 w14 ho15 hb hg_ hnew_
                            clear hg_ hnew_
                            (first | rw [← Ny217.out] at ho15 | (simp only [Int.reduceToNat] at ho15; rw [← Ny217.out] at ho15))
                            have n0_ := Aside0.mk (Kd.S_lower (Kd.S_mono (ok' := fun k_ => (w.heap.size ≤ k_) ∧ k_ ≠ gb211 ∧ k_ ≠ gb212) ho15 (fun k_ hk_ => ⟨(Nat.le_trans (below_size (by repeat (first | (with_reducible first | exact HB.out | apply below_alloc | apply pw_below_drewN | apply below_drew1 | refine below_set ?_ GE211.out | refine below_set ?_ GE212.out) | exact HB.out))) hk_), (Kd.freshB (g := gb211) (o := .cells #[.slice A0_0 l0_0.length c0_0, .slice A0_1 l0_1.length c0_1] 25 (0, 0)) (by (with_reducible repeat (first | refine blk_drewN ?_ _ | refine blk_drew ?_ | refine blk_alloc ?_ _)); exact BK211.out) k_ hk_), (Kd.freshB (g := gb212) (o := .cells #[.slice none 0 0, .slice none 0 0] 25 (0, 0)) (by (with_reducible repeat (first | refine blk_drewN ?_ _ | refine blk_drew ?_ | refine blk_alloc ?_ _)); exact BK212.out) k_ hk_)⟩)) (below_size (by repeat (first | (with_reducible first | exact HB.out | apply below_alloc | apply pw_below_drewN | apply below_drew1 | refine below_set ?_ GE211.out | refine below_set ?_ GE212.out) | exact HB.out))))
                            have n1_ := Aside0.mk (blk_below (g := gb211) (o := .cells #[.slice A0_0 l0_0.length c0_0, .slice A0_1 l0_1.length c0_1] 25 (0, 0)) (by (with_reducible repeat (first | refine blk_drewN ?_ _ | refine blk_drew ?_ | refine blk_alloc ?_ _)); exact BK211.out) hb)
                            have n2_ := Aside0.mk (blk_below (g := gb212) (o := .cells #[.slice none 0 0, .slice none 0 0] 25 (0, 0)) (by (with_reducible repeat (first | refine blk_drewN ?_ _ | refine blk_drew ?_ | refine blk_alloc ?_ _)); exact BK212.out) hb)
                            have n3_ := Aside0.mk (below_step (by repeat (first | (with_reducible first | exact HB.out | apply below_alloc | apply pw_below_drewN | apply below_drew1 | refine below_set ?_ GE211.out | refine below_set ?_ GE212.out) | exact HB.out)) hb)
                            clear BK211
                            clear BK212
                            clear HB
                            have HO219 := n0_
                            have BK211 := n1_
                            have BK212 := n2_
                            have HB := n3_
                            clear n0_ n1_ n2_ n3_
                            clear hb ho15
                            refine hK.out _ _ ⟨(blk_cell BK211.out 0).trans rfl, (blk_cell BK211.out 1).trans rfl⟩ (fun hHeld => ?_)
                            clear hK K
                            refine norm_ (a' := ?_) ?_ ?_
                            rotate_left
                            · show Act.put _ (some 21) _ = _
                              simp only [Act.put, List.setIfInBounds_toArray, List.set_cons_zero, List.set_cons_succ, i64_w, i32_w]
                              rfl
                            exact norm_ (by first | (simp only [putAll, Act.put, List.setIfInBounds_toArray, List.set_cons_zero, List.set_cons_succ]; done) | (simp only [putAll, Act.put, List.setIfInBounds_toArray, List.set_cons_zero, List.set_cons_succ]; rfl)) (hJ7 (v218) _ ⟨hHeld, (by (with_reducible repeat (first | apply Kd.S_alloc | apply Kd.S_drewN | apply Kd.S_drew)); exact HO219.out), (by (with_reducible repeat (first | refine blk_drewN ?_ _ | refine blk_drew ?_ | refine blk_alloc ?_ _)); exact BK211.out), (by (with_reducible repeat (first | refine blk_drewN ?_ _ | refine blk_drew ?_ | refine blk_alloc ?_ _)); exact BK212.out), (by repeat (first | (with_reducible first | exact HB.out | apply below_alloc | apply pw_below_drewN | apply below_drew1 | refine below_set ?_ GE211.out | refine below_set ?_ GE212.out) | exact HB.out))⟩)
                          · skip
                            refine box_step ?hg (N := 5) ?hd (cs := #[.slice none 0 0, .slice none 0 0]) (t := 25) ?hr ?_; (case hd => rfl); (case hg => rfl); (case hr => first | (go_simp; done) | (go_simp; rfl))
                            intro gb220 hg w14 hbox hb
                            have n0_ := Aside0.mk (blk_below (g := gb211) (o := .cells #[.slice A0_0 l0_0.length c0_0, .slice A0_1 l0_1.length c0_1] 25 (0, 0)) (by (with_reducible repeat (first | refine blk_drewN ?_ _ | refine blk_drew ?_ | refine blk_alloc ?_ _)); exact BK211.out) hb)
                            have n1_ := Aside0.mk (blk_below (g := gb212) (o := .cells #[.slice none 0 0, .slice none 0 0] 25 (0, 0)) (by (with_reducible repeat (first | refine blk_drewN ?_ _ | refine blk_drew ?_ | refine blk_alloc ?_ _)); exact BK212.out) hb)
                            have n2_ := Aside0.mk (below_step (by repeat (first | (with_reducible first | exact HB.out | apply below_alloc | apply pw_below_drewN | apply below_drew1 | refine below_set ?_ GE211.out | refine below_set ?_ GE212.out) | exact HB.out)) hb)
                            have n3_ := Aside0.mk (hbox)
                            have n4_ := Aside0.mk ((by rw [hg]; exact (below_size (by repeat (first | (with_reducible first | exact HB.out | apply below_alloc | apply pw_below_drewN | apply below_drew1 | refine below_set ?_ GE211.out | refine below_set ?_ GE212.out) | exact HB.out))) : w.heap.size ≤ gb220))
                            have n5_ := Aside0.mk ((by rw [hg]; exact (below_size (by repeat (first | (with_reducible first | exact HB.out | apply below_alloc | apply pw_below_drewN | apply below_drew1 | refine below_set ?_ GE211.out | refine below_set ?_ GE212.out) | exact HB.out))) : w.heap.size ≤ gb220))
                            have n6_ := Aside0.mk ((by rw [hg]; exact Nat.ne_of_lt (blk_lt (g := gb211) (o := .cells #[.slice A0_0 l0_0.length c0_0, .slice A0_1 l0_1.length c0_1] 25 (0, 0)) (by (with_reducible repeat (first | refine blk_drewN ?_ _ | refine blk_drew ?_ | refine blk_alloc ?_ _)); exact BK211.out)) : gb211 ≠ gb220))
                            have n7_ := Aside0.mk ((by rw [hg]; exact Nat.ne_of_gt (blk_lt (g := gb211) (o := .cells #[.slice A0_0 l0_0.length c0_0, .slice A0_1 l0_1.length c0_1] 25 (0, 0)) (by (with_reducible repeat (first | refine blk_drewN ?_ _ | refine blk_drew ?_ | refine blk_alloc ?_ _)); exact BK211.out)) : gb220 ≠ gb211))
                            have n8_ := Aside0.mk ((by rw [hg]; exact Nat.ne_of_lt (blk_lt (g := gb212) (o := .cells #[.slice none 0 0, .slice none 0 0] 25 (0, 0)) (by (with_reducible repeat (first | refine blk_drewN ?_ _ | refine blk_drew ?_ | refine blk_alloc ?_ _)); exact BK212.out)) : gb212 ≠ gb220))
                            have n9_ := Aside0.mk ((by rw [hg]; exact Nat.ne_of_gt (blk_lt (g := gb212) (o := .cells #[.slice none 0 0, .slice none 0 0] 25 (0, 0)) (by (with_reducible repeat (first | refine blk_drewN ?_ _ | refine blk_drew ?_ | refine blk_alloc ?_ _)); exact BK212.out)) : gb220 ≠ gb212))
                            clear BK211
                            clear BK212
                            clear HB
                            have BK211 := n0_
                            have BK212 := n1_
                            have HB := n2_
                            have BK220 := n3_
                            have GW220 := n4_
                            have GE220 := n5_
                            have NB211_220 := n6_
                            have NB220_211 := n7_
                            have NB212_220 := n8_
                            have NB220_212 := n9_
                            clear n0_ n1_ n2_ n3_ n4_ n5_ n6_ n7_ n8_ n9_
                            clear hb hbox hg
                            refine hK.out _ _ ⟨(blk_cell BK211.out 0).trans rfl, (blk_cell BK211.out 1).trans rfl⟩ (fun hHeld => ?_)
                            clear hK K
                            refine norm_ (a' := ?_) ?_ ?_
                            rotate_left
                            · show Act.put _ (some 5) _ = _
                              simp only [Act.put, List.setIfInBounds_toArray, List.set_cons_zero, List.set_cons_succ, i64_w, i32_w]
                              rfl
                            exact norm_ (by first | (simp only [putAll, Act.put, List.setIfInBounds_toArray, List.set_cons_zero, List.set_cons_succ]; done) | (simp only [putAll, Act.put, List.setIfInBounds_toArray, List.set_cons_zero, List.set_cons_succ]; rfl)) (hJ9 (gb220) _ ⟨hHeld, (by (with_reducible repeat (first | refine blk_drewN ?_ _ | refine blk_drew ?_ | refine blk_alloc ?_ _)); exact BK211.out), (by (with_reducible repeat (first | refine blk_drewN ?_ _ | refine blk_drew ?_ | refine blk_alloc ?_ _)); exact BK212.out), (by (with_reducible repeat (first | refine blk_drewN ?_ _ | refine blk_drew ?_ | refine blk_alloc ?_ _)); exact BK220.out), GW220.out, GE220.out, NB211_220.out, NB220_211.out, NB212_220.out, NB220_212.out, (by repeat (first | (with_reducible first | exact HB.out | apply below_alloc | apply pw_below_drewN | apply below_drew1 | refine below_set ?_ GE211.out | refine below_set ?_ GE212.out | refine below_set ?_ GE220.out) | exact HB.out))⟩)
                        · skip
                          rintro gb220 w15 ⟨hS_, h0_, h1_, h2_, h3_, h4_, h5_, h6_, h7_, h8_, h9_⟩
                          have n0_ : Aside0 (w15.heap[gb211]? = some (.cells #[.slice A0_0 l0_0.length c0_0, .slice A0_1 l0_1.length c0_1] 25 (0, 0))) := ⟨h0_⟩
                          have n1_ : Aside0 (w15.heap[gb212]? = some (.cells #[.slice none 0 0, .slice none 0 0] 25 (0, 0))) := ⟨h1_⟩
                          have n2_ : Aside0 (w15.heap[gb220]? = some (.cells #[.slice none 0 0, .slice none 0 0] 25 (0, 0))) := ⟨h2_⟩
                          have n3_ : Aside0 (w.heap.size ≤ gb220) := ⟨h3_⟩
                          have n4_ : Aside0 (w.heap.size ≤ gb220) := ⟨h4_⟩
                          have n5_ : Aside0 (gb211 ≠ gb220) := ⟨h5_⟩
                          have n6_ : Aside0 (gb220 ≠ gb211) := ⟨h6_⟩
                          have n7_ : Aside0 (gb212 ≠ gb220) := ⟨h7_⟩
                          have n8_ : Aside0 (gb220 ≠ gb212) := ⟨h8_⟩
                          have n9_ : Aside0 (Below w.heap.size w w15) := ⟨h9_⟩
                          clear BK211
                          clear BK212
                          clear HB
                          clear h0_ h1_ h2_ h3_ h4_ h5_ h6_ h7_ h8_ h9_
                          have BK211 := n0_
                          have BK212 := n1_
                          have BK220 := n2_
                          have GW220 := n3_
                          have GE220 := n4_
                          have NB211_220 := n5_
                          have NB220_211 := n6_
                          have NB212_220 := n7_
                          have NB220_212 := n8_
                          have HB := n9_
                          clear n0_ n1_ n2_ n3_ n4_ n5_ n6_ n7_ n8_ n9_
                          have hHeld : w15.cell? ⟨gb211, 0, none⟩ = some (.slice A0_0 l0_0.length c0_0) ∧ w15.cell? ⟨gb211, 1, none⟩ = some (.slice A0_1 l0_1.length c0_1) := hS_
                          refine norm_ (a' := ?_) ?_ ?_
                          rotate_left
                          · simp only [putAll, Act.put, List.setIfInBounds_toArray, List.set_cons_zero, List.set_cons_succ]
                            rfl
                          refine two_ (i := 3) (j := 7) (Ni := some 17) (Nj := some 21) #[true, true, true, true, true, true, true, false, false, true, false] #[true, true, true, false, true, true, true, true, false, true, false] rfl rfl rfl rfl (two_of HT_.out (by kernel_rfl)) (by decide) (by decide) (fun K hK => ?_) (fun K hK => ?_)
                          · skip
                            refine Kd.R_make_step (Kd.int .i64) _ 3 (by rfl) (N := 17) rfl 22 _ _ rfl (l0_0.length : Int) rfl rfl Try.underlying22 (.int .i64 0) 8 info3 rfl (by decide) (by omega) 0 (ok := fun _ => True) (okp := fun _ => True) rfl (fun _ hk => hk) trivial (of_decide_eq_true (by first | (with_reducible assumption) | assumption)) (Nat.le_trans (Nat.mul_le_mul_right _ (of_decide_eq_true (by first | (with_reducible assumption) | assumption) : (l0_0.length : Int).toNat ≤ 35184372088832)) (by omega)) (Below.refl _ _) (Nat.le_refl _) ?_
                            intro v215 w16 ho17 hb hg_ hnew_
                            clear hg_ hnew_
                            (first | rw [← Ny214.out] at ho17 | (simp only [Int.reduceToNat] at ho17; rw [← Ny214.out] at ho17))
                            have n0_ := Aside0.mk (Kd.R_lower (Kd.R_newM (M := fun k_ => (w.heap.size ≤ k_)) ho17 (below_size (by repeat (first | (with_reducible first | exact HB.out | apply below_alloc | apply pw_below_drewN | apply below_drew1 | refine below_set ?_ GE211.out | refine below_set ?_ GE212.out | refine below_set ?_ GE220.out) | exact HB.out))) (fun k_ h_ => h_)) (below_size (by repeat (first | (with_reducible first | exact HB.out | apply below_alloc | apply pw_below_drewN | apply below_drew1 | refine below_set ?_ GE211.out | refine below_set ?_ GE212.out | refine below_set ?_ GE220.out) | exact HB.out))))
                            have n1_ := Aside0.mk (blk_below (g := gb211) (o := .cells #[.slice A0_0 l0_0.length c0_0, .slice A0_1 l0_1.length c0_1] 25 (0, 0)) (by (with_reducible repeat (first | refine blk_drewN ?_ _ | refine blk_drew ?_ | refine blk_alloc ?_ _)); exact BK211.out) hb)
                            have n2_ := Aside0.mk (blk_below (g := gb212) (o := .cells #[.slice none 0 0, .slice none 0 0] 25 (0, 0)) (by (with_reducible repeat (first | refine blk_drewN ?_ _ | refine blk_drew ?_ | refine blk_alloc ?_ _)); exact BK212.out) hb)
                            have n3_ := Aside0.mk (blk_below (g := gb220) (o := .cells #[.slice none 0 0, .slice none 0 0] 25 (0, 0)) (by (with_reducible repeat (first | refine blk_drewN ?_ _ | refine blk_drew ?_ | refine blk_alloc ?_ _)); exact BK220.out) hb)
                            have n4_ := Aside0.mk (below_step (by repeat (first | (with_reducible first | exact HB.out | apply below_alloc | apply pw_below_drewN | apply below_drew1 | refine below_set ?_ GE211.out | refine below_set ?_ GE212.out | refine below_set ?_ GE220.out) | exact HB.out)) hb)
                            clear BK211
                            clear BK212
                            clear BK220
                            clear HB
                            have HO216 := n0_
                            have BK211 := n1_
                            have BK212 := n2_
                            have BK220 := n3_
                            have HB := n4_
                            clear n0_ n1_ n2_ n3_ n4_
                            clear hb ho17
                            refine hK.out _ _ ⟨(blk_cell BK211.out 0).trans rfl, (blk_cell BK211.out 1).trans rfl⟩ (fun hHeld => ?_)
                            clear hK K
                            refine norm_ (a' := ?_) ?_ ?_
                            rotate_left
                            · show Act.put _ (some 17) _ = _
                              simp only [Act.put, List.setIfInBounds_toArray, List.set_cons_zero, List.set_cons_succ, i64_w, i32_w]
                              rfl
                            exact norm_ (by first | (simp only [putAll, Act.put, List.setIfInBounds_toArray, List.set_cons_zero, List.set_cons_succ]; done) | (simp only [putAll, Act.put, List.setIfInBounds_toArray, List.set_cons_zero, List.set_cons_succ]; rfl)) (hJ3_9 (v215, gb220) _ ⟨hHeld, (by (with_reducible repeat (first | apply Kd.R_alloc | apply Kd.R_drewN | apply Kd.R_drew)); exact Kd.R_mono HO216.out (fun _ hk => hk.1)), (by (with_reducible repeat (first | refine blk_drewN ?_ _ | refine blk_drew ?_ | refine blk_alloc ?_ _)); exact BK211.out), (by (with_reducible repeat (first | refine blk_drewN ?_ _ | refine blk_drew ?_ | refine blk_alloc ?_ _)); exact BK212.out), (by (with_reducible repeat (first | refine blk_drewN ?_ _ | refine blk_drew ?_ | refine blk_alloc ?_ _)); exact BK220.out), GW220.out, GE220.out, NB211_220.out, NB220_211.out, NB212_220.out, NB220_212.out, (by repeat (first | (with_reducible first | exact HB.out | apply below_alloc | apply pw_below_drewN | apply below_drew1 | refine below_set ?_ GE211.out | refine below_set ?_ GE212.out | refine below_set ?_ GE220.out) | exact HB.out))⟩)
                          · skip
                            refine Kd.S_make_step (Kd.slice 3 (Kd.int .i64)) _ 22 (by rfl) (N := 21) rfl 23 _ _ rfl (l0_1.length : Int) rfl rfl Try.underlying23 (.slice none 0 0) 24 info22 rfl (by decide) (by omega) [] (ok := fun k_ => w15.heap.size ≤ k_) (okp := fun _ => False) ⟨_, rfl, Kd.R_nil _ _ _ _ _⟩ (fun _ hk => hk.elim) (Nat.le_refl _) (of_decide_eq_true (by first | (with_reducible assumption) | assumption)) (Nat.le_trans (Nat.mul_le_mul_right _ (of_decide_eq_true (by first | (with_reducible assumption) | assumption) : (l0_1.length : Int).toNat ≤ 11728124029610)) (by omega)) (Below.refl _ _) (Nat.le_refl _) ?_
                            intro v218 w16 ho17 hb hg_ hnew_
                            clear hg_ hnew_
                            (first | rw [← Ny217.out] at ho17 | (simp only [Int.reduceToNat] at ho17; rw [← Ny217.out] at ho17))
                            have n0_ := Aside0.mk (Kd.S_lower (Kd.S_mono (ok' := fun k_ => (w.heap.size ≤ k_) ∧ k_ ≠ gb211 ∧ k_ ≠ gb212 ∧ k_ ≠ gb220) ho17 (fun k_ hk_ => ⟨(Nat.le_trans (below_size (by repeat (first | (with_reducible first | exact HB.out | apply below_alloc | apply pw_below_drewN | apply below_drew1 | refine below_set ?_ GE211.out | refine below_set ?_ GE212.out | refine below_set ?_ GE220.out) | exact HB.out))) hk_), (Kd.freshB (g := gb211) (o := .cells #[.slice A0_0 l0_0.length c0_0, .slice A0_1 l0_1.length c0_1] 25 (0, 0)) (by (with_reducible repeat (first | refine blk_drewN ?_ _ | refine blk_drew ?_ | refine blk_alloc ?_ _)); exact BK211.out) k_ hk_), (Kd.freshB (g := gb212) (o := .cells #[.slice none 0 0, .slice none 0 0] 25 (0, 0)) (by (with_reducible repeat (first | refine blk_drewN ?_ _ | refine blk_drew ?_ | refine blk_alloc ?_ _)); exact BK212.out) k_ hk_), (Kd.freshB (g := gb220) (o := .cells #[.slice none 0 0, .slice none 0 0] 25 (0, 0)) (by (with_reducible repeat (first | refine blk_drewN ?_ _ | refine blk_drew ?_ | refine blk_alloc ?_ _)); exact BK220.out) k_ hk_)⟩)) (below_size (by repeat (first | (with_reducible first | exact HB.out | apply below_alloc | apply pw_below_drewN | apply below_drew1 | refine below_set ?_ GE211.out | refine below_set ?_ GE212.out | refine below_set ?_ GE220.out) | exact HB.out))))
                            have n1_ := Aside0.mk (blk_below (g := gb211) (o := .cells #[.slice A0_0 l0_0.length c0_0, .slice A0_1 l0_1.length c0_1] 25 (0, 0)) (by (with_reducible repeat (first | refine blk_drewN ?_ _ | refine blk_drew ?_ | refine blk_alloc ?_ _)); exact BK211.out) hb)
                            have n2_ := Aside0.mk (blk_below (g := gb212) (o := .cells #[.slice none 0 0, .slice none 0 0] 25 (0, 0)) (by (with_reducible repeat (first | refine blk_drewN ?_ _ | refine blk_drew ?_ | refine blk_alloc ?_ _)); exact BK212.out) hb)
                            have n3_ := Aside0.mk (blk_below (g := gb220) (o := .cells #[.slice none 0 0, .slice none 0 0] 25 (0, 0)) (by (with_reducible repeat (first | refine blk_drewN ?_ _ | refine blk_drew ?_ | refine blk_alloc ?_ _)); exact BK220.out) hb)
                            have n4_ := Aside0.mk (below_step (by repeat (first | (with_reducible first | exact HB.out | apply below_alloc | apply pw_below_drewN | apply below_drew1 | refine below_set ?_ GE211.out | refine below_set ?_ GE212.out | refine below_set ?_ GE220.out) | exact HB.out)) hb)
                            clear BK211
                            clear BK212
                            clear BK220
                            clear HB
                            have HO219 := n0_
                            have BK211 := n1_
                            have BK212 := n2_
                            have BK220 := n3_
                            have HB := n4_
                            clear n0_ n1_ n2_ n3_ n4_
                            clear hb ho17
                            refine hK.out _ _ ⟨(blk_cell BK211.out 0).trans rfl, (blk_cell BK211.out 1).trans rfl⟩ (fun hHeld => ?_)
                            clear hK K
                            refine norm_ (a' := ?_) ?_ ?_
                            rotate_left
                            · show Act.put _ (some 21) _ = _
                              simp only [Act.put, List.setIfInBounds_toArray, List.set_cons_zero, List.set_cons_succ, i64_w, i32_w]
                              rfl
                            exact norm_ (by first | (simp only [putAll, Act.put, List.setIfInBounds_toArray, List.set_cons_zero, List.set_cons_succ]; done) | (simp only [putAll, Act.put, List.setIfInBounds_toArray, List.set_cons_zero, List.set_cons_succ]; rfl)) (hJ7_9 (v218, gb220) _ ⟨hHeld, (by (with_reducible repeat (first | apply Kd.S_alloc | apply Kd.S_drewN | apply Kd.S_drew)); exact HO219.out), (by (with_reducible repeat (first | refine blk_drewN ?_ _ | refine blk_drew ?_ | refine blk_alloc ?_ _)); exact BK211.out), (by (with_reducible repeat (first | refine blk_drewN ?_ _ | refine blk_drew ?_ | refine blk_alloc ?_ _)); exact BK212.out), (by (with_reducible repeat (first | refine blk_drewN ?_ _ | refine blk_drew ?_ | refine blk_alloc ?_ _)); exact BK220.out), GW220.out, GE220.out, NB211_220.out, NB220_211.out, NB212_220.out, NB220_212.out, (by repeat (first | (with_reducible first | exact HB.out | apply below_alloc | apply pw_below_drewN | apply below_drew1 | refine below_set ?_ GE211.out | refine below_set ?_ GE212.out | refine below_set ?_ GE220.out) | exact HB.out))⟩)
                      · skip
                        rintro v218 w16 ⟨hS_, h0_, h1_, h2_, h3_⟩
                        have n0_ : Aside0 (Kd.S (Kd.slice 3 (Kd.int .i64)) 22 w16 w.heap.size (fun k_ => (w.heap.size ≤ k_) ∧ k_ ≠ gb211 ∧ k_ ≠ gb212) v218 y217) := ⟨h0_⟩
                        have n1_ : Aside0 (w16.heap[gb211]? = some (.cells #[.slice A0_0 l0_0.length c0_0, .slice A0_1 l0_1.length c0_1] 25 (0, 0))) := ⟨h1_⟩
                        have n2_ : Aside0 (w16.heap[gb212]? = some (.cells #[.slice none 0 0, .slice none 0 0] 25 (0, 0))) := ⟨h2_⟩
                        have n3_ : Aside0 (Below w.heap.size w w16) := ⟨h3_⟩
                        clear BK211
                        clear BK212
                        clear HB
                        clear h0_ h1_ h2_ h3_
                        have HO219 := n0_
                        have BK211 := n1_
                        have BK212 := n2_
                        have HB := n3_
                        clear n0_ n1_ n2_ n3_
                        have hHeld : w16.cell? ⟨gb211, 0, none⟩ = some (.slice A0_0 l0_0.length c0_0) ∧ w16.cell? ⟨gb211, 1, none⟩ = some (.slice A0_1 l0_1.length c0_1) := hS_
                        refine norm_ (a' := ?_) ?_ ?_
                        rotate_left
                        · simp only [putAll, Act.put, List.setIfInBounds_toArray, List.set_cons_zero, List.set_cons_succ]
                          rfl
                        refine two_ (i := 3) (j := 9) (Ni := some 17) (Nj := some 5) #[true, true, true, true, true, true, true, true, false, false, false] #[true, true, true, false, true, true, true, true, false, true, false] rfl rfl rfl rfl (two_of HT_.out (by kernel_rfl)) (by decide) (by decide) (fun K hK => ?_) (fun K hK => ?_)
                        · skip
                          refine Kd.R_make_step (Kd.int .i64) _ 3 (by rfl) (N := 17) rfl 22 _ _ rfl (l0_0.length : Int) rfl rfl Try.underlying22 (.int .i64 0) 8 info3 rfl (by decide) (by omega) 0 (ok := fun _ => True) (okp := fun _ => True) rfl (fun _ hk => hk) trivial (of_decide_eq_true (by first | (with_reducible assumption) | assumption)) (Nat.le_trans (Nat.mul_le_mul_right _ (of_decide_eq_true (by first | (with_reducible assumption) | assumption) : (l0_0.length : Int).toNat ≤ 35184372088832)) (by omega)) (Below.refl _ _) (Nat.le_refl _) ?_
                          intro v215 w17 ho18 hb hg_ hnew_
                          clear hg_ hnew_
                          (first | rw [← Ny214.out] at ho18 | (simp only [Int.reduceToNat] at ho18; rw [← Ny214.out] at ho18))
                          have n0_ := Aside0.mk (Kd.S_elder' (by (with_reducible repeat (first | apply Kd.S_alloc | apply Kd.S_drewN | apply Kd.S_drew)); exact HO219.out) (Kd.R_base ho18) hb)
                          have n1_ := Aside0.mk (Kd.R_lower (Kd.R_newM (M := fun k_ => (w.heap.size ≤ k_)) ho18 (below_size (by repeat (first | (with_reducible first | exact HB.out | apply below_alloc | apply pw_below_drewN | apply below_drew1 | refine below_set ?_ GE211.out | refine below_set ?_ GE212.out) | exact HB.out))) (fun k_ h_ => h_)) (below_size (by repeat (first | (with_reducible first | exact HB.out | apply below_alloc | apply pw_below_drewN | apply below_drew1 | refine below_set ?_ GE211.out | refine below_set ?_ GE212.out) | exact HB.out))))
                          have n2_ := Aside0.mk (blk_below (g := gb211) (o := .cells #[.slice A0_0 l0_0.length c0_0, .slice A0_1 l0_1.length c0_1] 25 (0, 0)) (by (with_reducible repeat (first | refine blk_drewN ?_ _ | refine blk_drew ?_ | refine blk_alloc ?_ _)); exact BK211.out) hb)
                          have n3_ := Aside0.mk (blk_below (g := gb212) (o := .cells #[.slice none 0 0, .slice none 0 0] 25 (0, 0)) (by (with_reducible repeat (first | refine blk_drewN ?_ _ | refine blk_drew ?_ | refine blk_alloc ?_ _)); exact BK212.out) hb)
                          have n4_ := Aside0.mk (below_step (by repeat (first | (with_reducible first | exact HB.out | apply below_alloc | apply pw_below_drewN | apply below_drew1 | refine below_set ?_ GE211.out | refine below_set ?_ GE212.out) | exact HB.out)) hb)
                          clear HO219
                          clear BK211
                          clear BK212
                          clear HB
                          have HO219 := n0_
                          have HO216 := n1_
                          have BK211 := n2_
                          have BK212 := n3_
                          have HB := n4_
                          clear n0_ n1_ n2_ n3_ n4_
                          clear hb ho18
                          obtain ⟨Ao19, co19, eo19⟩ := Kd.S_slice HO219.out
                          (first | subst eo19 | (injection eo19 with f1_ f2_ f3_; have f4_ := f1_.symm; have f5_ := f3_.symm; clear f1_ f2_ f3_; subst f4_; subst f5_))
                          obtain ⟨Ao20, co20, eo20⟩ := Kd.R_slice HO216.out
                          (first | subst eo20 | (injection eo20 with f1_ f2_ f3_; have f4_ := f1_.symm; have f5_ := f3_.symm; clear f1_ f2_ f3_; subst f4_; subst f5_))
                          refine hK.out _ _ ⟨(blk_cell BK211.out 0).trans rfl, (blk_cell BK211.out 1).trans rfl⟩ (fun hHeld => ?_)
                          clear hK K
                          refine norm_ (a' := ?_) ?_ ?_
                          rotate_left
                          · show Act.put _ (some 17) _ = _
                            simp only [Act.put, List.setIfInBounds_toArray, List.set_cons_zero, List.set_cons_succ, i64_w, i32_w]
                            rfl
                          refine pure_ (i := 8) (N := some 22) (v := ?_) (a' := ?_) #[true, true, true, true, true, true, true, true, true, false, false] rfl rfl (any_of HT_.out (by kernel_rfl)) (fun _ _ _ h => h) (Or.inl ⟨by rfl, ?_⟩) ?_ ?_
                          rotate_left
                          · intro w'
                            go_simp
                            with_reducible rfl
                          rotate_left
                          · simp only [Act.put, List.setIfInBounds_toArray, List.set_cons_zero, List.set_cons_succ, i64_w, i32_w]
                            rfl
                          exact norm_ (by first | (simp only [putAll, Act.put, List.setIfInBounds_toArray, List.set_cons_zero, List.set_cons_succ]; done) | (simp only [putAll, Act.put, List.setIfInBounds_toArray, List.set_cons_zero, List.set_cons_succ]; rfl)) (hJ3_7 (.slice Ao20 y214.length co20, .slice Ao19 y217.length co19) _ ⟨hHeld, (by (with_reducible repeat (first | apply Kd.R_alloc | apply Kd.R_drewN | apply Kd.R_drew)); exact Kd.R_mono HO216.out (fun _ hk => hk.1)), (by (with_reducible repeat (first | apply Kd.S_alloc | apply Kd.S_drewN | apply Kd.S_drew)); exact Kd.S_mono HO219.out (fun _ hk => ⟨hk.1.1, ⟨hk.2, ⟨hk.1.2.1, hk.1.2.2⟩⟩⟩)), (by (with_reducible repeat (first | refine blk_drewN ?_ _ | refine blk_drew ?_ | refine blk_alloc ?_ _)); exact BK211.out), (by (with_reducible repeat (first | refine blk_drewN ?_ _ | refine blk_drew ?_ | refine blk_alloc ?_ _)); exact BK212.out), (by repeat (first | (with_reducible first | exact HB.out | apply below_alloc | apply pw_below_drewN | apply below_drew1 | refine below_set ?_ GE211.out | refine below_set ?_ GE212.out) | exact HB.out))⟩)
                        · skip
                          refine box_step ?hg (N := 5) ?hd (cs := #[.slice none 0 0, .slice none 0 0]) (t := 25) ?hr ?_; (case hd => rfl); (case hg => rfl); (case hr => first | (go_simp; done) | (go_simp; rfl))
                          intro gb220 hg w17 hbox hb
                          have n0_ := Aside0.mk (Kd.S_below (Kd.S_elderB (by (with_reducible repeat (first | apply Kd.S_alloc | apply Kd.S_drewN | apply Kd.S_drew)); exact HO219.out) gb220 (Nat.le_of_eq hg.symm)) hb)
                          have n1_ := Aside0.mk (blk_below (g := gb211) (o := .cells #[.slice A0_0 l0_0.length c0_0, .slice A0_1 l0_1.length c0_1] 25 (0, 0)) (by (with_reducible repeat (first | refine blk_drewN ?_ _ | refine blk_drew ?_ | refine blk_alloc ?_ _)); exact BK211.out) hb)
                          have n2_ := Aside0.mk (blk_below (g := gb212) (o := .cells #[.slice none 0 0, .slice none 0 0] 25 (0, 0)) (by (with_reducible repeat (first | refine blk_drewN ?_ _ | refine blk_drew ?_ | refine blk_alloc ?_ _)); exact BK212.out) hb)
                          have n3_ := Aside0.mk (below_step (by repeat (first | (with_reducible first | exact HB.out | apply below_alloc | apply pw_below_drewN | apply below_drew1 | refine below_set ?_ GE211.out | refine below_set ?_ GE212.out) | exact HB.out)) hb)
                          have n4_ := Aside0.mk (hbox)
                          have n5_ := Aside0.mk ((by rw [hg]; exact (below_size (by repeat (first | (with_reducible first | exact HB.out | apply below_alloc | apply pw_below_drewN | apply below_drew1 | refine below_set ?_ GE211.out | refine below_set ?_ GE212.out) | exact HB.out))) : w.heap.size ≤ gb220))
                          have n6_ := Aside0.mk ((by rw [hg]; exact (below_size (by repeat (first | (with_reducible first | exact HB.out | apply below_alloc | apply pw_below_drewN | apply below_drew1 | refine below_set ?_ GE211.out | refine below_set ?_ GE212.out) | exact HB.out))) : w.heap.size ≤ gb220))
                          have n7_ := Aside0.mk ((by rw [hg]; exact Nat.ne_of_lt (blk_lt (g := gb211) (o := .cells #[.slice A0_0 l0_0.length c0_0, .slice A0_1 l0_1.length c0_1] 25 (0, 0)) (by (with_reducible repeat (first | refine blk_drewN ?_ _ | refine blk_drew ?_ | refine blk_alloc ?_ _)); exact BK211.out)) : gb211 ≠ gb220))
                          have n8_ := Aside0.mk ((by rw [hg]; exact Nat.ne_of_gt (blk_lt (g := gb211) (o := .cells #[.slice A0_0 l0_0.length c0_0, .slice A0_1 l0_1.length c0_1] 25 (0, 0)) (by (with_reducible repeat (first | refine blk_drewN ?_ _ | refine blk_drew ?_ | refine blk_alloc ?_ _)); exact BK211.out)) : gb220 ≠ gb211))
                          have n9_ := Aside0.mk ((by rw [hg]; exact Nat.ne_of_lt (blk_lt (g := gb212) (o := .cells #[.slice none 0 0, .slice none 0 0] 25 (0, 0)) (by (with_reducible repeat (first | refine blk_drewN ?_ _ | refine blk_drew ?_ | refine blk_alloc ?_ _)); exact BK212.out)) : gb212 ≠ gb220))
                          have n10_ := Aside0.mk ((by rw [hg]; exact Nat.ne_of_gt (blk_lt (g := gb212) (o := .cells #[.slice none 0 0, .slice none 0 0] 25 (0, 0)) (by (with_reducible repeat (first | refine blk_drewN ?_ _ | refine blk_drew ?_ | refine blk_alloc ?_ _)); exact BK212.out)) : gb220 ≠ gb212))
                          clear HO219
                          clear BK211
                          clear BK212
                          clear HB
                          have HO219 := n0_
                          have BK211 := n1_
                          have BK212 := n2_
                          have HB := n3_
                          have BK220 := n4_
                          have GW220 := n5_
                          have GE220 := n6_
                          have NB211_220 := n7_
                          have NB220_211 := n8_
                          have NB212_220 := n9_
                          have NB220_212 := n10_
                          clear n0_ n1_ n2_ n3_ n4_ n5_ n6_ n7_ n8_ n9_ n10_
                          clear hb hbox hg
                          refine hK.out _ _ ⟨(blk_cell BK211.out 0).trans rfl, (blk_cell BK211.out 1).trans rfl⟩ (fun hHeld => ?_)
                          clear hK K
                          refine norm_ (a' := ?_) ?_ ?_
                          rotate_left
                          · show Act.put _ (some 5) _ = _
                            simp only [Act.put, List.setIfInBounds_toArray, List.set_cons_zero, List.set_cons_succ, i64_w, i32_w]
                            rfl
                          exact norm_ (by first | (simp only [putAll, Act.put, List.setIfInBounds_toArray, List.set_cons_zero, List.set_cons_succ]; done) | (simp only [putAll, Act.put, List.setIfInBounds_toArray, List.set_cons_zero, List.set_cons_succ]; rfl)) (hJ7_9 (v218, gb220) _ ⟨hHeld, (by (with_reducible repeat (first | apply Kd.S_alloc | apply Kd.S_drewN | apply Kd.S_drew)); exact Kd.S_mono HO219.out (fun _ hk => ⟨hk.1.1, ⟨hk.1.2.1, ⟨hk.1.2.2, hk.2⟩⟩⟩)), (by (with_reducible repeat (first | refine blk_drewN ?_ _ | refine blk_drew ?_ | refine blk_alloc ?_ _)); exact BK211.out), (by (with_reducible repeat (first | refine blk_drewN ?_ _ | refine blk_drew ?_ | refine blk_alloc ?_ _)); exact BK212.out), (by (with_reducible repeat (first | refine blk_drewN ?_ _ | refine blk_drew ?_ | refine blk_alloc ?_ _)); exact BK220.out), GW220.out, GE220.out, NB211_220.out, NB220_211.out, NB212_220.out, NB220_212.out, (by repeat (first | (with_reducible first | exact HB.out | apply below_alloc | apply pw_below_drewN | apply below_drew1 | refine below_set ?_ GE211.out | refine below_set ?_ GE212.out | refine below_set ?_ GE220.out) | exact HB.out))⟩)
                    · skip
                      rintro v215 w16 ⟨hS_, h0_, h1_, h2_, h3_⟩
                      have n0_ : Aside0 (Kd.R (Kd.int .i64) 3 w16 w.heap.size (fun k_ => (w.heap.size ≤ k_)) v215 y214) := ⟨h0_⟩
                      have n1_ : Aside0 (w16.heap[gb211]? = some (.cells #[.slice A0_0 l0_0.length c0_0, .slice A0_1 l0_1.length c0_1] 25 (0, 0))) := ⟨h1_⟩
                      have n2_ : Aside0 (w16.heap[gb212]? = some (.cells #[.slice none 0 0, .slice none 0 0] 25 (0, 0))) := ⟨h2_⟩
                      have n3_ : Aside0 (Below w.heap.size w w16) := ⟨h3_⟩
                      clear BK211
                      clear BK212
                      clear HB
                      clear h0_ h1_ h2_ h3_
                      have HO216 := n0_
                      have BK211 := n1_
                      have BK212 := n2_
                      have HB := n3_
                      clear n0_ n1_ n2_ n3_
                      have hHeld : w16.cell? ⟨gb211, 0, none⟩ = some (.slice A0_0 l0_0.length c0_0) ∧ w16.cell? ⟨gb211, 1, none⟩ = some (.slice A0_1 l0_1.length c0_1) := hS_
                      refine norm_ (a' := ?_) ?_ ?_
                      rotate_left
                      · simp only [putAll, Act.put, List.setIfInBounds_toArray, List.set_cons_zero, List.set_cons_succ]
                        rfl
                      refine two_ (i := 7) (j := 9) (Ni := some 21) (Nj := some 5) #[true, true, true, true, true, true, true, true, false, false, false] #[true, true, true, true, true, true, true, false, false, true, false] rfl rfl rfl rfl (two_of HT_.out (by kernel_rfl)) (by decide) (by decide) (fun K hK => ?_) (fun K hK => ?_)
                      · skip
                        refine Kd.S_make_step (Kd.slice 3 (Kd.int .i64)) _ 22 (by rfl) (N := 21) rfl 23 _ _ rfl (l0_1.length : Int) rfl rfl Try.underlying23 (.slice none 0 0) 24 info22 rfl (by decide) (by omega) [] (ok := fun k_ => w16.heap.size ≤ k_) (okp := fun _ => False) ⟨_, rfl, Kd.R_nil _ _ _ _ _⟩ (fun _ hk => hk.elim) (Nat.le_refl _) (of_decide_eq_true (by first | (with_reducible assumption) | assumption)) (Nat.le_trans (Nat.mul_le_mul_right _ (of_decide_eq_true (by first | (with_reducible assumption) | assumption) : (l0_1.length : Int).toNat ≤ 11728124029610)) (by omega)) (Below.refl _ _) (Nat.le_refl _) ?_
                        intro v218 w17 ho18 hb hg_ hnew_
                        clear hg_ hnew_
                        (first | rw [← Ny217.out] at ho18 | (simp only [Int.reduceToNat] at ho18; rw [← Ny217.out] at ho18))
                        have n0_ := Aside0.mk (Kd.R_below (by (with_reducible repeat (first | apply Kd.R_alloc | apply Kd.R_drewN | apply Kd.R_drew)); exact HO216.out) hb)
                        have n1_ := Aside0.mk (Kd.S_lower (Kd.S_mono (ok' := fun k_ => (w.heap.size ≤ k_) ∧ some k_ ≠ (v215 : Value).ownBlock ∧ k_ ≠ gb211 ∧ k_ ≠ gb212) ho18 (fun k_ hk_ => ⟨(Nat.le_trans (below_size (by repeat (first | (with_reducible first | exact HB.out | apply below_alloc | apply pw_below_drewN | apply below_drew1 | refine below_set ?_ GE211.out | refine below_set ?_ GE212.out) | exact HB.out))) hk_), (Kd.fresh' (Kd.R_lt (by (with_reducible repeat (first | apply Kd.R_alloc | apply Kd.R_drewN | apply Kd.R_drew)); exact HO216.out)) k_ hk_), (Kd.freshB (g := gb211) (o := .cells #[.slice A0_0 l0_0.length c0_0, .slice A0_1 l0_1.length c0_1] 25 (0, 0)) (by (with_reducible repeat (first | refine blk_drewN ?_ _ | refine blk_drew ?_ | refine blk_alloc ?_ _)); exact BK211.out) k_ hk_), (Kd.freshB (g := gb212) (o := .cells #[.slice none 0 0, .slice none 0 0] 25 (0, 0)) (by (with_reducible repeat (first | refine blk_drewN ?_ _ | refine blk_drew ?_ | refine blk_alloc ?_ _)); exact BK212.out) k_ hk_)⟩)) (below_size (by repeat (first | (with_reducible first | exact HB.out | apply below_alloc | apply pw_below_drewN | apply below_drew1 | refine below_set ?_ GE211.out | refine below_set ?_ GE212.out) | exact HB.out))))
                        have n2_ := Aside0.mk (blk_below (g := gb211) (o := .cells #[.slice A0_0 l0_0.length c0_0, .slice A0_1 l0_1.length c0_1] 25 (0, 0)) (by (with_reducible repeat (first | refine blk_drewN ?_ _ | refine blk_drew ?_ | refine blk_alloc ?_ _)); exact BK211.out) hb)
                        have n3_ := Aside0.mk (blk_below (g := gb212) (o := .cells #[.slice none 0 0, .slice none 0 0] 25 (0, 0)) (by (with_reducible repeat (first | refine blk_drewN ?_ _ | refine blk_drew ?_ | refine blk_alloc ?_ _)); exact BK212.out) hb)
                        have n4_ := Aside0.mk (below_step (by repeat (first | (with_reducible first | exact HB.out | apply below_alloc | apply pw_below_drewN | apply below_drew1 | refine below_set ?_ GE211.out | refine below_set ?_ GE212.out) | exact HB.out)) hb)
                        clear HO216
                        clear BK211
                        clear BK212
                        clear HB
                        have HO216 := n0_
                        have HO219 := n1_
                        have BK211 := n2_
                        have BK212 := n3_
                        have HB := n4_
                        clear n0_ n1_ n2_ n3_ n4_
                        clear hb ho18
                        obtain ⟨Ao19, co19, eo19⟩ := Kd.S_slice HO219.out
                        (first | subst eo19 | (injection eo19 with f1_ f2_ f3_; have f4_ := f1_.symm; have f5_ := f3_.symm; clear f1_ f2_ f3_; subst f4_; subst f5_))
                        obtain ⟨Ao20, co20, eo20⟩ := Kd.R_slice HO216.out
                        (first | subst eo20 | (injection eo20 with f1_ f2_ f3_; have f4_ := f1_.symm; have f5_ := f3_.symm; clear f1_ f2_ f3_; subst f4_; subst f5_))
                        refine hK.out _ _ ⟨(blk_cell BK211.out 0).trans rfl, (blk_cell BK211.out 1).trans rfl⟩ (fun hHeld => ?_)
                        clear hK K
                        refine norm_ (a' := ?_) ?_ ?_
                        rotate_left
                        · show Act.put _ (some 21) _ = _
                          simp only [Act.put, List.setIfInBounds_toArray, List.set_cons_zero, List.set_cons_succ, i64_w, i32_w]
                          rfl
                        refine pure_ (i := 8) (N := some 22) (v := ?_) (a' := ?_) #[true, true, true, true, true, true, true, true, true, false, false] rfl rfl (any_of HT_.out (by kernel_rfl)) (fun _ _ _ h => h) (Or.inl ⟨by rfl, ?_⟩) ?_ ?_
                        rotate_left
                        · intro w'
                          go_simp
                          with_reducible rfl
                        rotate_left
                        · simp only [Act.put, List.setIfInBounds_toArray, List.set_cons_zero, List.set_cons_succ, i64_w, i32_w]
                          rfl
                        exact norm_ (by first | (simp only [putAll, Act.put, List.setIfInBounds_toArray, List.set_cons_zero, List.set_cons_succ]; done) | (simp only [putAll, Act.put, List.setIfInBounds_toArray, List.set_cons_zero, List.set_cons_succ]; rfl)) (hJ3_7 (.slice Ao20 y214.length co20, .slice Ao19 y217.length co19) _ ⟨hHeld, (by (with_reducible repeat (first | apply Kd.R_alloc | apply Kd.R_drewN | apply Kd.R_drew)); exact HO216.out), (by (with_reducible repeat (first | apply Kd.S_alloc | apply Kd.S_drewN | apply Kd.S_drew)); exact HO219.out), (by (with_reducible repeat (first | refine blk_drewN ?_ _ | refine blk_drew ?_ | refine blk_alloc ?_ _)); exact BK211.out), (by (with_reducible repeat (first | refine blk_drewN ?_ _ | refine blk_drew ?_ | refine blk_alloc ?_ _)); exact BK212.out), (by repeat (first | (with_reducible first | exact HB.out | apply below_alloc | apply pw_below_drewN | apply below_drew1 | refine below_set ?_ GE211.out | refine below_set ?_ GE212.out) | exact HB.out))⟩)
                      · skip
                        refine box_step ?hg (N := 5) ?hd (cs := #[.slice none 0 0, .slice none 0 0]) (t := 25) ?hr ?_; (case hd => rfl); (case hg => rfl); (case hr => first | (go_simp; done) | (go_simp; rfl))
                        intro gb220 hg w17 hbox hb
                        have n0_ := Aside0.mk (Kd.R_below (by (with_reducible repeat (first | apply Kd.R_alloc | apply Kd.R_drewN | apply Kd.R_drew)); exact HO216.out) hb)
                        have n1_ := Aside0.mk (blk_below (g := gb211) (o := .cells #[.slice A0_0 l0_0.length c0_0, .slice A0_1 l0_1.length c0_1] 25 (0, 0)) (by (with_reducible repeat (first | refine blk_drewN ?_ _ | refine blk_drew ?_ | refine blk_alloc ?_ _)); exact BK211.out) hb)
                        have n2_ := Aside0.mk (blk_below (g := gb212) (o := .cells #[.slice none 0 0, .slice none 0 0] 25 (0, 0)) (by (with_reducible repeat (first | refine blk_drewN ?_ _ | refine blk_drew ?_ | refine blk_alloc ?_ _)); exact BK212.out) hb)
                        have n3_ := Aside0.mk (below_step (by repeat (first | (with_reducible first | exact HB.out | apply below_alloc | apply pw_below_drewN | apply below_drew1 | refine below_set ?_ GE211.out | refine below_set ?_ GE212.out) | exact HB.out)) hb)
                        have n4_ := Aside0.mk (hbox)
                        have n5_ := Aside0.mk ((by rw [hg]; exact (below_size (by repeat (first | (with_reducible first | exact HB.out | apply below_alloc | apply pw_below_drewN | apply below_drew1 | refine below_set ?_ GE211.out | refine below_set ?_ GE212.out) | exact HB.out))) : w.heap.size ≤ gb220))
                        have n6_ := Aside0.mk ((by rw [hg]; exact (below_size (by repeat (first | (with_reducible first | exact HB.out | apply below_alloc | apply pw_below_drewN | apply below_drew1 | refine below_set ?_ GE211.out | refine below_set ?_ GE212.out) | exact HB.out))) : w.heap.size ≤ gb220))
                        have n7_ := Aside0.mk ((by rw [hg]; exact Nat.ne_of_lt (blk_lt (g := gb211) (o := .cells #[.slice A0_0 l0_0.length c0_0, .slice A0_1 l0_1.length c0_1] 25 (0, 0)) (by (with_reducible repeat (first | refine blk_drewN ?_ _ | refine blk_drew ?_ | refine blk_alloc ?_ _)); exact BK211.out)) : gb211 ≠ gb220))
                        have n8_ := Aside0.mk ((by rw [hg]; exact Nat.ne_of_gt (blk_lt (g := gb211) (o := .cells #[.slice A0_0 l0_0.length c0_0, .slice A0_1 l0_1.length c0_1] 25 (0, 0)) (by (with_reducible repeat (first | refine blk_drewN ?_ _ | refine blk_drew ?_ | refine blk_alloc ?_ _)); exact BK211.out)) : gb220 ≠ gb211))
                        have n9_ := Aside0.mk ((by rw [hg]; exact Nat.ne_of_lt (blk_lt (g := gb212) (o := .cells #[.slice none 0 0, .slice none 0 0] 25 (0, 0)) (by (with_reducible repeat (first | refine blk_drewN ?_ _ | refine blk_drew ?_ | refine blk_alloc ?_ _)); exact BK212.out)) : gb212 ≠ gb220))
                        have n10_ := Aside0.mk ((by rw [hg]; exact Nat.ne_of_gt (blk_lt (g := gb212) (o := .cells #[.slice none 0 0, .slice none 0 0] 25 (0, 0)) (by (with_reducible repeat (first | refine blk_drewN ?_ _ | refine blk_drew ?_ | refine blk_alloc ?_ _)); exact BK212.out)) : gb220 ≠ gb212))
                        clear HO216
                        clear BK211
                        clear BK212
                        clear HB
                        have HO216 := n0_
                        have BK211 := n1_
                        have BK212 := n2_
                        have HB := n3_
                        have BK220 := n4_
                        have GW220 := n5_
                        have GE220 := n6_
                        have NB211_220 := n7_
                        have NB220_211 := n8_
                        have NB212_220 := n9_
                        have NB220_212 := n10_
                        clear n0_ n1_ n2_ n3_ n4_ n5_ n6_ n7_ n8_ n9_ n10_
                        clear hb hbox hg
                        refine hK.out _ _ ⟨(blk_cell BK211.out 0).trans rfl, (blk_cell BK211.out 1).trans rfl⟩ (fun hHeld => ?_)
                        clear hK K
                        refine norm_ (a' := ?_) ?_ ?_
                        rotate_left
                        · show Act.put _ (some 5) _ = _
                          simp only [Act.put, List.setIfInBounds_toArray, List.set_cons_zero, List.set_cons_succ, i64_w, i32_w]
                          rfl
                        exact norm_ (by first | (simp only [putAll, Act.put, List.setIfInBounds_toArray, List.set_cons_zero, List.set_cons_succ]; done) | (simp only [putAll, Act.put, List.setIfInBounds_toArray, List.set_cons_zero, List.set_cons_succ]; rfl)) (hJ3_9 (v215, gb220) _ ⟨hHeld, (by (with_reducible repeat (first | apply Kd.R_alloc | apply Kd.R_drewN | apply Kd.R_drew)); exact HO216.out), (by (with_reducible repeat (first | refine blk_drewN ?_ _ | refine blk_drew ?_ | refine blk_alloc ?_ _)); exact BK211.out), (by (with_reducible repeat (first | refine blk_drewN ?_ _ | refine blk_drew ?_ | refine blk_alloc ?_ _)); exact BK212.out), (by (with_reducible repeat (first | refine blk_drewN ?_ _ | refine blk_drew ?_ | refine blk_alloc ?_ _)); exact BK220.out), GW220.out, GE220.out, NB211_220.out, NB220_211.out, NB212_220.out, NB220_212.out, (by repeat (first | (with_reducible first | exact HB.out | apply below_alloc | apply pw_below_drewN | apply below_drew1 | refine below_set ?_ GE211.out | refine below_set ?_ GE212.out | refine below_set ?_ GE220.out) | exact HB.out))⟩)
                  · skip
                    rintro ⟨v218, gb220⟩ w17 ⟨hS_, h0_, h1_, h2_, h3_, h4_, h5_, h6_, h7_, h8_, h9_, h10_⟩
                    have n0_ : Aside0 (Kd.S (Kd.slice 3 (Kd.int .i64)) 22 w17 w.heap.size (fun k_ => (w.heap.size ≤ k_) ∧ k_ ≠ gb211 ∧ k_ ≠ gb212 ∧ k_ ≠ gb220) v218 y217) := ⟨h0_⟩
                    have n1_ : Aside0 (w17.heap[gb211]? = some (.cells #[.slice A0_0 l0_0.length c0_0, .slice A0_1 l0_1.length c0_1] 25 (0, 0))) := ⟨h1_⟩
                    have n2_ : Aside0 (w17.heap[gb212]? = some (.cells #[.slice none 0 0, .slice none 0 0] 25 (0, 0))) := ⟨h2_⟩
                    have n3_ : Aside0 (w17.heap[gb220]? = some (.cells #[.slice none 0 0, .slice none 0 0] 25 (0, 0))) := ⟨h3_⟩
                    have n4_ : Aside0 (w.heap.size ≤ gb220) := ⟨h4_⟩
                    have n5_ : Aside0 (w.heap.size ≤ gb220) := ⟨h5_⟩
                    have n6_ : Aside0 (gb211 ≠ gb220) := ⟨h6_⟩
                    have n7_ : Aside0 (gb220 ≠ gb211) := ⟨h7_⟩
                    have n8_ : Aside0 (gb212 ≠ gb220) := ⟨h8_⟩
                    have n9_ : Aside0 (gb220 ≠ gb212) := ⟨h9_⟩
                    have n10_ : Aside0 (Below w.heap.size w w17) := ⟨h10_⟩
                    clear BK211
                    clear BK212
                    clear HB
                    clear h0_ h1_ h2_ h3_ h4_ h5_ h6_ h7_ h8_ h9_ h10_
                    have HO219 := n0_
                    have BK211 := n1_
                    have BK212 := n2_
                    have BK220 := n3_
                    have GW220 := n4_
                    have GE220 := n5_
                    have NB211_220 := n6_
                    have NB220_211 := n7_
                    have NB212_220 := n8_
                    have NB220_212 := n9_
                    have HB := n10_
                    clear n0_ n1_ n2_ n3_ n4_ n5_ n6_ n7_ n8_ n9_ n10_
                    have hHeld : w17.cell? ⟨gb211, 0, none⟩ = some (.slice A0_0 l0_0.length c0_0) ∧ w17.cell? ⟨gb211, 1, none⟩ = some (.slice A0_1 l0_1.length c0_1) := hS_
                    refine norm_ (a' := ?_) ?_ ?_
                    rotate_left
                    · simp only [putAll, Act.put, List.setIfInBounds_toArray, List.set_cons_zero, List.set_cons_succ]
                      rfl
                    refine one_ (i := 3) (N := some 17) #[true, true, true, true, true, true, true, true, false, true, false] rfl rfl (one_of HT_.out (by kernel_rfl)) (by decide) (fun K hK => ?_)
                    refine Kd.R_make_step (Kd.int .i64) _ 3 (by rfl) (N := 17) rfl 22 _ _ rfl (l0_0.length : Int) rfl rfl Try.underlying22 (.int .i64 0) 8 info3 rfl (by decide) (by omega) 0 (ok := fun _ => True) (okp := fun _ => True) rfl (fun _ hk => hk) trivial (of_decide_eq_true (by first | (with_reducible assumption) | assumption)) (Nat.le_trans (Nat.mul_le_mul_right _ (of_decide_eq_true (by first | (with_reducible assumption) | assumption) : (l0_0.length : Int).toNat ≤ 35184372088832)) (by omega)) (Below.refl _ _) (Nat.le_refl _) ?_
                    intro v215 w18 ho19 hb hg_ hnew_
                    clear hg_ hnew_
                    (first | rw [← Ny214.out] at ho19 | (simp only [Int.reduceToNat] at ho19; rw [← Ny214.out] at ho19))
                    have n0_ := Aside0.mk (Kd.S_elder' (by (with_reducible repeat (first | apply Kd.S_alloc | apply Kd.S_drewN | apply Kd.S_drew)); exact HO219.out) (Kd.R_base ho19) hb)
                    have n1_ := Aside0.mk (Kd.R_lower (Kd.R_newM (M := fun k_ => (w.heap.size ≤ k_)) ho19 (below_size (by repeat (first | (with_reducible first | exact HB.out | apply below_alloc | apply pw_below_drewN | apply below_drew1 | refine below_set ?_ GE211.out | refine below_set ?_ GE212.out | refine below_set ?_ GE220.out) | exact HB.out))) (fun k_ h_ => h_)) (below_size (by repeat (first | (with_reducible first | exact HB.out | apply below_alloc | apply pw_below_drewN | apply below_drew1 | refine below_set ?_ GE211.out | refine below_set ?_ GE212.out | refine below_set ?_ GE220.out) | exact HB.out))))
                    have n2_ := Aside0.mk (blk_below (g := gb211) (o := .cells #[.slice A0_0 l0_0.length c0_0, .slice A0_1 l0_1.length c0_1] 25 (0, 0)) (by (with_reducible repeat (first | refine blk_drewN ?_ _ | refine blk_drew ?_ | refine blk_alloc ?_ _)); exact BK211.out) hb)
                    have n3_ := Aside0.mk (blk_below (g := gb212) (o := .cells #[.slice none 0 0, .slice none 0 0] 25 (0, 0)) (by (with_reducible repeat (first | refine blk_drewN ?_ _ | refine blk_drew ?_ | refine blk_alloc ?_ _)); exact BK212.out) hb)
                    have n4_ := Aside0.mk (blk_below (g := gb220) (o := .cells #[.slice none 0 0, .slice none 0 0] 25 (0, 0)) (by (with_reducible repeat (first | refine blk_drewN ?_ _ | refine blk_drew ?_ | refine blk_alloc ?_ _)); exact BK220.out) hb)
                    have n5_ := Aside0.mk (below_step (by repeat (first | (with_reducible first | exact HB.out | apply below_alloc | apply pw_below_drewN | apply below_drew1 | refine below_set ?_ GE211.out | refine below_set ?_ GE212.out | refine below_set ?_ GE220.out) | exact HB.out)) hb)
                    clear HO219
                    clear BK211
                    clear BK212
                    clear BK220
                    clear HB
                    have HO219 := n0_
                    have HO216 := n1_
                    have BK211 := n2_
                    have BK212 := n3_
                    have BK220 := n4_
                    have HB := n5_
                    clear n0_ n1_ n2_ n3_ n4_ n5_
                    clear hb ho19
                    obtain ⟨Ao20, co20, eo20⟩ := Kd.S_slice HO219.out
                    (first | subst eo20 | (injection eo20 with f1_ f2_ f3_; have f4_ := f1_.symm; have f5_ := f3_.symm; clear f1_ f2_ f3_; subst f4_; subst f5_))
                    obtain ⟨Ao21, co21, eo21⟩ := Kd.R_slice HO216.out
                    (first | subst eo21 | (injection eo21 with f1_ f2_ f3_; have f4_ := f1_.symm; have f5_ := f3_.symm; clear f1_ f2_ f3_; subst f4_; subst f5_))
                    refine hK.out _ _ ⟨(blk_cell BK211.out 0).trans rfl, (blk_cell BK211.out 1).trans rfl⟩ (fun hHeld => ?_)
                    clear hK K
                    refine norm_ (a' := ?_) ?_ ?_
                    rotate_left
                    · show Act.put _ (some 17) _ = _
                      simp only [Act.put, List.setIfInBounds_toArray, List.set_cons_zero, List.set_cons_succ, i64_w, i32_w]
                      rfl
                    refine pure_ (i := 8) (N := some 22) (v := ?_) (a' := ?_) #[true, true, true, true, true, true, true, true, true, true, false] rfl rfl (any_of HT_.out (by kernel_rfl)) (fun _ _ _ h => h) (Or.inl ⟨by rfl, ?_⟩) ?_ ?_
                    rotate_left
                    · intro w'
                      go_simp
                      with_reducible rfl
                    rotate_left
                    · simp only [Act.put, List.setIfInBounds_toArray, List.set_cons_zero, List.set_cons_succ, i64_w, i32_w]
                      rfl
                    exact norm_ (by first | (simp only [putAll, Act.put, List.setIfInBounds_toArray, List.set_cons_zero, List.set_cons_succ]; done) | (simp only [putAll, Act.put, List.setIfInBounds_toArray, List.set_cons_zero, List.set_cons_succ]; rfl)) (hJ3_7_9 (.slice Ao21 y214.length co21, .slice Ao20 y217.length co20, gb220) _ ⟨hHeld, (by (with_reducible repeat (first | apply Kd.R_alloc | apply Kd.R_drewN | apply Kd.R_drew)); exact Kd.R_mono HO216.out (fun _ hk => hk.1)), (by (with_reducible repeat (first | apply Kd.S_alloc | apply Kd.S_drewN | apply Kd.S_drew)); exact Kd.S_mono HO219.out (fun _ hk => ⟨hk.1.1, ⟨hk.2, ⟨hk.1.2.1, ⟨hk.1.2.2.1, hk.1.2.2.2⟩⟩⟩⟩)), (by (with_reducible repeat (first | refine blk_drewN ?_ _ | refine blk_drew ?_ | refine blk_alloc ?_ _)); exact BK211.out), (by (with_reducible repeat (first | refine blk_drewN ?_ _ | refine blk_drew ?_ | refine blk_alloc ?_ _)); exact BK212.out), (by (with_reducible repeat (first | refine blk_drewN ?_ _ | refine blk_drew ?_ | refine blk_alloc ?_ _)); exact BK220.out), GW220.out, GE220.out, NB211_220.out, NB220_211.out, NB212_220.out, NB220_212.out, (by repeat (first | (with_reducible first | exact HB.out | apply below_alloc | apply pw_below_drewN | apply below_drew1 | refine below_set ?_ GE211.out | refine below_set ?_ GE212.out | refine below_set ?_ GE220.out) | exact HB.out))⟩)
                · skip
                  rintro ⟨v215, gb220⟩ w17 ⟨hS_, h0_, h1_, h2_, h3_, h4_, h5_, h6_, h7_, h8_, h9_, h10_⟩
                  have n0_ : Aside0 (Kd.R (Kd.int .i64) 3 w17 w.heap.size (fun k_ => (w.heap.size ≤ k_)) v215 y214) := ⟨h0_⟩
                  have n1_ : Aside0 (w17.heap[gb211]? = some (.cells #[.slice A0_0 l0_0.length c0_0, .slice A0_1 l0_1.length c0_1] 25 (0, 0))) := ⟨h1_⟩
                  have n2_ : Aside0 (w17.heap[gb212]? = some (.cells #[.slice none 0 0, .slice none 0 0] 25 (0, 0))) := ⟨h2_⟩
                  have n3_ : Aside0 (w17.heap[gb220]? = some (.cells #[.slice none 0 0, .slice none 0 0] 25 (0, 0))) := ⟨h3_⟩
                  have n4_ : Aside0 (w.heap.size ≤ gb220) := ⟨h4_⟩
                  have n5_ : Aside0 (w.heap.size ≤ gb220) := ⟨h5_⟩
                  have n6_ : Aside0 (gb211 ≠ gb220) := ⟨h6_⟩
                  have n7_ : Aside0 (gb220 ≠ gb211) := ⟨h7_⟩
                  have n8_ : Aside0 (gb212 ≠ gb220) := ⟨h8_⟩
                  have n9_ : Aside0 (gb220 ≠ gb212) := ⟨h9_⟩
                  have n10_ : Aside0 (Below w.heap.size w w17) := ⟨h10_⟩
                  clear BK211
                  clear BK212
                  clear HB
                  clear h0_ h1_ h2_ h3_ h4_ h5_ h6_ h7_ h8_ h9_ h10_
                  have HO216 := n0_
                  have BK211 := n1_
                  have BK212 := n2_
                  have BK220 := n3_
                  have GW220 := n4_
                  have GE220 := n5_
                  have NB211_220 := n6_
                  have NB220_211 := n7_
                  have NB212_220 := n8_
                  have NB220_212 := n9_
                  have HB := n10_
                  clear n0_ n1_ n2_ n3_ n4_ n5_ n6_ n7_ n8_ n9_ n10_
                  have hHeld : w17.cell? ⟨gb211, 0, none⟩ = some (.slice A0_0 l0_0.length c0_0) ∧ w17.cell? ⟨gb211, 1, none⟩ = some (.slice A0_1 l0_1.length c0_1) := hS_
                  refine norm_ (a' := ?_) ?_ ?_
                  rotate_left
                  · simp only [putAll, Act.put, List.setIfInBounds_toArray, List.set_cons_zero, List.set_cons_succ]
                    rfl
                  refine one_ (i := 7) (N := some 21) #[true, true, true, true, true, true, true, true, false, true, false] rfl rfl (one_of HT_.out (by kernel_rfl)) (by decide) (fun K hK => ?_)
                  refine Kd.S_make_step (Kd.slice 3 (Kd.int .i64)) _ 22 (by rfl) (N := 21) rfl 23 _ _ rfl (l0_1.length : Int) rfl rfl Try.underlying23 (.slice none 0 0) 24 info22 rfl (by decide) (by omega) [] (ok := fun k_ => w17.heap.size ≤ k_) (okp := fun _ => False) ⟨_, rfl, Kd.R_nil _ _ _ _ _⟩ (fun _ hk => hk.elim) (Nat.le_refl _) (of_decide_eq_true (by first | (with_reducible assumption) | assumption)) (Nat.le_trans (Nat.mul_le_mul_right _ (of_decide_eq_true (by first | (with_reducible assumption) | assumption) : (l0_1.length : Int).toNat ≤ 11728124029610)) (by omega)) (Below.refl _ _) (Nat.le_refl _) ?_
                  intro v218 w18 ho19 hb hg_ hnew_
                  clear hg_ hnew_
                  (first | rw [← Ny217.out] at ho19 | (simp only [Int.reduceToNat] at ho19; rw [← Ny217.out] at ho19))
                  have n0_ := Aside0.mk (Kd.R_below (by (with_reducible repeat (first | apply Kd.R_alloc | apply Kd.R_drewN | apply Kd.R_drew)); exact HO216.out) hb)
                  have n1_ := Aside0.mk (Kd.S_lower (Kd.S_mono (ok' := fun k_ => (w.heap.size ≤ k_) ∧ some k_ ≠ (v215 : Value).ownBlock ∧ k_ ≠ gb211 ∧ k_ ≠ gb212 ∧ k_ ≠ gb220) ho19 (fun k_ hk_ => ⟨(Nat.le_trans (below_size (by repeat (first | (with_reducible first | exact HB.out | apply below_alloc | apply pw_below_drewN | apply below_drew1 | refine below_set ?_ GE211.out | refine below_set ?_ GE212.out | refine below_set ?_ GE220.out) | exact HB.out))) hk_), (Kd.fresh' (Kd.R_lt (by (with_reducible repeat (first | apply Kd.R_alloc | apply Kd.R_drewN | apply Kd.R_drew)); exact HO216.out)) k_ hk_), (Kd.freshB (g := gb211) (o := .cells #[.slice A0_0 l0_0.length c0_0, .slice A0_1 l0_1.length c0_1] 25 (0, 0)) (by (with_reducible repeat (first | refine blk_drewN ?_ _ | refine blk_drew ?_ | refine blk_alloc ?_ _)); exact BK211.out) k_ hk_), (Kd.freshB (g := gb212) (o := .cells #[.slice none 0 0, .slice none 0 0] 25 (0, 0)) (by (with_reducible repeat (first | refine blk_drewN ?_ _ | refine blk_drew ?_ | refine blk_alloc ?_ _)); exact BK212.out) k_ hk_), (Kd.freshB (g := gb220) (o := .cells #[.slice none 0 0, .slice none 0 0] 25 (0, 0)) (by (with_reducible repeat (first | refine blk_drewN ?_ _ | refine blk_drew ?_ | refine blk_alloc ?_ _)); exact BK220.out) k_ hk_)⟩)) (below_size (by repeat (first | (with_reducible first | exact HB.out | apply below_alloc | apply pw_below_drewN | apply below_drew1 | refine below_set ?_ GE211.out | refine below_set ?_ GE212.out | refine below_set ?_ GE220.out) | exact HB.out))))
                  have n2_ := Aside0.mk (blk_below (g := gb211) (o := .cells #[.slice A0_0 l0_0.length c0_0, .slice A0_1 l0_1.length c0_1] 25 (0, 0)) (by (with_reducible repeat (first | refine blk_drewN ?_ _ | refine blk_drew ?_ | refine blk_alloc ?_ _)); exact BK211.out) hb)
                  have n3_ := Aside0.mk (blk_below (g := gb212) (o := .cells #[.slice none 0 0, .slice none 0 0] 25 (0, 0)) (by (with_reducible repeat (first | refine blk_drewN ?_ _ | refine blk_drew ?_ | refine blk_alloc ?_ _)); exact BK212.out) hb)
                  have n4_ := Aside0.mk (blk_below (g := gb220) (o := .cells #[.slice none 0 0, .slice none 0 0] 25 (0, 0)) (by (with_reducible repeat (first | refine blk_drewN ?_ _ | refine blk_drew ?_ | refine blk_alloc ?_ _)); exact BK220.out) hb)
                  have n5_ := Aside0.mk (below_step (by repeat (first | (with_reducible first | exact HB.out | apply below_alloc | apply pw_below_drewN | apply below_drew1 | refine below_set ?_ GE211.out | refine below_set ?_ GE212.out | refine below_set ?_ GE220.out) | exact HB.out)) hb)
                  clear HO216
                  clear BK211
                  clear BK212
                  clear BK220
                  clear HB
                  have HO216 := n0_
                  have HO219 := n1_
                  have BK211 := n2_
                  have BK212 := n3_
                  have BK220 := n4_
                  have HB := n5_
                  clear n0_ n1_ n2_ n3_ n4_ n5_
                  clear hb ho19
                  obtain ⟨Ao20, co20, eo20⟩ := Kd.S_slice HO219.out
                  (first | subst eo20 | (injection eo20 with f1_ f2_ f3_; have f4_ := f1_.symm; have f5_ := f3_.symm; clear f1_ f2_ f3_; subst f4_; subst f5_))
                  obtain ⟨Ao21, co21, eo21⟩ := Kd.R_slice HO216.out
                  (first | subst eo21 | (injection eo21 with f1_ f2_ f3_; have f4_ := f1_.symm; have f5_ := f3_.symm; clear f1_ f2_ f3_; subst f4_; subst f5_))
                  refine hK.out _ _ ⟨(blk_cell BK211.out 0).trans rfl, (blk_cell BK211.out 1).trans rfl⟩ (fun hHeld => ?_)
                  clear hK K
                  refine norm_ (a' := ?_) ?_ ?_
                  rotate_left
                  · show Act.put _ (some 21) _ = _
                    simp only [Act.put, List.setIfInBounds_toArray, List.set_cons_zero, List.set_cons_succ, i64_w, i32_w]
                    rfl
                  refine pure_ (i := 8) (N := some 22) (v := ?_) (a' := ?_) #[true, true, true, true, true, true, true, true, true, true, false] rfl rfl (any_of HT_.out (by kernel_rfl)) (fun _ _ _ h => h) (Or.inl ⟨by rfl, ?_⟩) ?_ ?_
                  rotate_left
                  · intro w'
                    go_simp
                    with_reducible rfl
                  rotate_left
                  · simp only [Act.put, List.setIfInBounds_toArray, List.set_cons_zero, List.set_cons_succ, i64_w, i32_w]
                    rfl
                  exact norm_ (by first | (simp only [putAll, Act.put, List.setIfInBounds_toArray, List.set_cons_zero, List.set_cons_succ]; done) | (simp only [putAll, Act.put, List.setIfInBounds_toArray, List.set_cons_zero, List.set_cons_succ]; rfl)) (hJ3_7_9 (.slice Ao21 y214.length co21, .slice Ao20 y217.length co20, gb220) _ ⟨hHeld, (by (with_reducible repeat (first | apply Kd.R_alloc | apply Kd.R_drewN | apply Kd.R_drew)); exact HO216.out), (by (with_reducible repeat (first | apply Kd.S_alloc | apply Kd.S_drewN | apply Kd.S_drew)); exact HO219.out), (by (with_reducible repeat (first | refine blk_drewN ?_ _ | refine blk_drew ?_ | refine blk_alloc ?_ _)); exact BK211.out), (by (with_reducible repeat (first | refine blk_drewN ?_ _ | refine blk_drew ?_ | refine blk_alloc ?_ _)); exact BK212.out), (by (with_reducible repeat (first | refine blk_drewN ?_ _ | refine blk_drew ?_ | refine blk_alloc ?_ _)); exact BK220.out), GW220.out, GE220.out, NB211_220.out, NB220_211.out, NB212_220.out, NB220_212.out, (by repeat (first | (with_reducible first | exact HB.out | apply below_alloc | apply pw_below_drewN | apply below_drew1 | refine below_set ?_ GE211.out | refine below_set ?_ GE212.out | refine below_set ?_ GE220.out) | exact HB.out))⟩)
              · skip
                rintro ⟨v215, v218⟩ w20 ⟨hS_, h0_, h1_, h2_, h3_, h4_⟩
                have n0_ : Aside0 (Kd.R (Kd.int .i64) 3 w20 w.heap.size (fun k_ => (w.heap.size ≤ k_)) v215 y214) := ⟨h0_⟩
                have n1_ : Aside0 (Kd.S (Kd.slice 3 (Kd.int .i64)) 22 w20 w.heap.size (fun k_ => (w.heap.size ≤ k_) ∧ some k_ ≠ (v215 : Value).ownBlock ∧ k_ ≠ gb211 ∧ k_ ≠ gb212) v218 y217) := ⟨h1_⟩
                have n2_ : Aside0 (w20.heap[gb211]? = some (.cells #[.slice A0_0 l0_0.length c0_0, .slice A0_1 l0_1.length c0_1] 25 (0, 0))) := ⟨h2_⟩
                have n3_ : Aside0 (w20.heap[gb212]? = some (.cells #[.slice none 0 0, .slice none 0 0] 25 (0, 0))) := ⟨h3_⟩
                have n4_ : Aside0 (Below w.heap.size w w20) := ⟨h4_⟩
                clear BK211
                clear BK212
                clear HB
                clear h0_ h1_ h2_ h3_ h4_
                have HO216 := n0_
                have HO219 := n1_
                have BK211 := n2_
                have BK212 := n3_
                have HB := n4_
                clear n0_ n1_ n2_ n3_ n4_
                have hHeld : w20.cell? ⟨gb211, 0, none⟩ = some (.slice A0_0 l0_0.length c0_0) ∧ w20.cell? ⟨gb211, 1, none⟩ = some (.slice A0_1 l0_1.length c0_1) := hS_
                obtain ⟨Ao21, co21, eo21⟩ := Kd.S_slice HO219.out
                (first | subst eo21 | (injection eo21 with f1_ f2_ f3_; have f4_ := f1_.symm; have f5_ := f3_.symm; clear f1_ f2_ f3_; subst f4_; subst f5_))
                obtain ⟨Ao22, co22, eo22⟩ := Kd.R_slice HO216.out
                (first | subst eo22 | (injection eo22 with f1_ f2_ f3_; have f4_ := f1_.symm; have f5_ := f3_.symm; clear f1_ f2_ f3_; subst f4_; subst f5_))
                refine norm_ (a' := ?_) ?_ ?_
                rotate_left
                · simp only [putAll, Act.put, List.setIfInBounds_toArray, List.set_cons_zero, List.set_cons_succ]
                  rfl
                refine one_ (i := 9) (N := some 5) #[true, true, true, true, true, true, true, true, true, true, false] rfl rfl (one_of HT_.out (by kernel_rfl)) (by decide) (fun K hK => ?_)
                refine box_step ?hg (N := 5) ?hd (cs := #[.slice none 0 0, .slice none 0 0]) (t := 25) ?hr ?_; (case hd => rfl); (case hg => rfl); (case hr => first | (go_simp; done) | (go_simp; rfl))
                intro gb220 hg w23 hbox hb
                have n0_ := Aside0.mk (Kd.R_below (by (with_reducible repeat (first | apply Kd.R_alloc | apply Kd.R_drewN | apply Kd.R_drew)); exact HO216.out) hb)
                have n1_ := Aside0.mk (Kd.S_below (Kd.S_elderB (by (with_reducible repeat (first | apply Kd.S_alloc | apply Kd.S_drewN | apply Kd.S_drew)); exact HO219.out) gb220 (Nat.le_of_eq hg.symm)) hb)
                have n2_ := Aside0.mk (blk_below (g := gb211) (o := .cells #[.slice A0_0 l0_0.length c0_0, .slice A0_1 l0_1.length c0_1] 25 (0, 0)) (by (with_reducible repeat (first | refine blk_drewN ?_ _ | refine blk_drew ?_ | refine blk_alloc ?_ _)); exact BK211.out) hb)
                have n3_ := Aside0.mk (blk_below (g := gb212) (o := .cells #[.slice none 0 0, .slice none 0 0] 25 (0, 0)) (by (with_reducible repeat (first | refine blk_drewN ?_ _ | refine blk_drew ?_ | refine blk_alloc ?_ _)); exact BK212.out) hb)
                have n4_ := Aside0.mk (below_step (by repeat (first | (with_reducible first | exact HB.out | apply below_alloc | apply pw_below_drewN | apply below_drew1 | refine below_set ?_ GE211.out | refine below_set ?_ GE212.out) | exact HB.out)) hb)
                have n5_ := Aside0.mk (hbox)
                have n6_ := Aside0.mk ((by rw [hg]; exact (below_size (by repeat (first | (with_reducible first | exact HB.out | apply below_alloc | apply pw_below_drewN | apply below_drew1 | refine below_set ?_ GE211.out | refine below_set ?_ GE212.out) | exact HB.out))) : w.heap.size ≤ gb220))
                have n7_ := Aside0.mk ((by rw [hg]; exact (below_size (by repeat (first | (with_reducible first | exact HB.out | apply below_alloc | apply pw_below_drewN | apply below_drew1 | refine below_set ?_ GE211.out | refine below_set ?_ GE212.out) | exact HB.out))) : w.heap.size ≤ gb220))
                have n8_ := Aside0.mk ((by rw [hg]; exact Nat.ne_of_lt (blk_lt (g := gb211) (o := .cells #[.slice A0_0 l0_0.length c0_0, .slice A0_1 l0_1.length c0_1] 25 (0, 0)) (by (with_reducible repeat (first | refine blk_drewN ?_ _ | refine blk_drew ?_ | refine blk_alloc ?_ _)); exact BK211.out)) : gb211 ≠ gb220))
                have n9_ := Aside0.mk ((by rw [hg]; exact Nat.ne_of_gt (blk_lt (g := gb211) (o := .cells #[.slice A0_0 l0_0.length c0_0, .slice A0_1 l0_1.length c0_1] 25 (0, 0)) (by (with_reducible repeat (first | refine blk_drewN ?_ _ | refine blk_drew ?_ | refine blk_alloc ?_ _)); exact BK211.out)) : gb220 ≠ gb211))
                have n10_ := Aside0.mk ((by rw [hg]; exact Nat.ne_of_lt (blk_lt (g := gb212) (o := .cells #[.slice none 0 0, .slice none 0 0] 25 (0, 0)) (by (with_reducible repeat (first | refine blk_drewN ?_ _ | refine blk_drew ?_ | refine blk_alloc ?_ _)); exact BK212.out)) : gb212 ≠ gb220))
                have n11_ := Aside0.mk ((by rw [hg]; exact Nat.ne_of_gt (blk_lt (g := gb212) (o := .cells #[.slice none 0 0, .slice none 0 0] 25 (0, 0)) (by (with_reducible repeat (first | refine blk_drewN ?_ _ | refine blk_drew ?_ | refine blk_alloc ?_ _)); exact BK212.out)) : gb220 ≠ gb212))
                clear HO216
                clear HO219
                clear BK211
                clear BK212
                clear HB
                have HO216 := n0_
                have HO219 := n1_
                have BK211 := n2_
                have BK212 := n3_
                have HB := n4_
                have BK220 := n5_
                have GW220 := n6_
                have GE220 := n7_
                have NB211_220 := n8_
                have NB220_211 := n9_
                have NB212_220 := n10_
                have NB220_212 := n11_
                clear n0_ n1_ n2_ n3_ n4_ n5_ n6_ n7_ n8_ n9_ n10_ n11_
                clear hb hbox hg
                refine hK.out _ _ ⟨(blk_cell BK211.out 0).trans rfl, (blk_cell BK211.out 1).trans rfl⟩ (fun hHeld => ?_)
                clear hK K
                refine norm_ (a' := ?_) ?_ ?_
                rotate_left
                · show Act.put _ (some 5) _ = _
                  simp only [Act.put, List.setIfInBounds_toArray, List.set_cons_zero, List.set_cons_succ, i64_w, i32_w]
                  rfl
                exact norm_ (by first | (simp only [putAll, Act.put, List.setIfInBounds_toArray, List.set_cons_zero, List.set_cons_succ]; done) | (simp only [putAll, Act.put, List.setIfInBounds_toArray, List.set_cons_zero, List.set_cons_succ]; rfl)) (hJ3_7_9 (.slice Ao22 y214.length co22, .slice Ao21 y217.length co21, gb220) _ ⟨hHeld, (by (with_reducible repeat (first | apply Kd.R_alloc | apply Kd.R_drewN | apply Kd.R_drew)); exact HO216.out), (by (with_reducible repeat (first | apply Kd.S_alloc | apply Kd.S_drewN | apply Kd.S_drew)); exact Kd.S_mono HO219.out (fun _ hk => ⟨hk.1.1, ⟨hk.1.2.1, ⟨hk.1.2.2.1, ⟨hk.1.2.2.2, hk.2⟩⟩⟩⟩)), (by (with_reducible repeat (first | refine blk_drewN ?_ _ | refine blk_drew ?_ | refine blk_alloc ?_ _)); exact BK211.out), (by (with_reducible repeat (first | refine blk_drewN ?_ _ | refine blk_drew ?_ | refine blk_alloc ?_ _)); exact BK212.out), (by (with_reducible repeat (first | refine blk_drewN ?_ _ | refine blk_drew ?_ | refine blk_alloc ?_ _)); exact BK220.out), GW220.out, GE220.out, NB211_220.out, NB220_211.out, NB212_220.out, NB220_212.out, (by repeat (first | (with_reducible first | exact HB.out | apply below_alloc | apply pw_below_drewN | apply below_drew1 | refine below_set ?_ GE211.out | refine below_set ?_ GE212.out | refine below_set ?_ GE220.out) | exact HB.out))⟩)
            rintro ⟨v215, v218, gb220⟩ w21 ⟨hS_, h0_, h1_, h2_, h3_, h4_, h5_, h6_, h7_, h8_, h9_, h10_, h11_⟩
            have n0_ : Aside0 (Kd.R (Kd.int .i64) 3 w21 w.heap.size (fun k_ => (w.heap.size ≤ k_)) v215 y214) := ⟨h0_⟩
            have n1_ : Aside0 (Kd.S (Kd.slice 3 (Kd.int .i64)) 22 w21 w.heap.size (fun k_ => (w.heap.size ≤ k_) ∧ some k_ ≠ (v215 : Value).ownBlock ∧ k_ ≠ gb211 ∧ k_ ≠ gb212 ∧ k_ ≠ gb220) v218 y217) := ⟨h1_⟩
            have n2_ : Aside0 (w21.heap[gb211]? = some (.cells #[.slice A0_0 l0_0.length c0_0, .slice A0_1 l0_1.length c0_1] 25 (0, 0))) := ⟨h2_⟩
            have n3_ : Aside0 (w21.heap[gb212]? = some (.cells #[.slice none 0 0, .slice none 0 0] 25 (0, 0))) := ⟨h3_⟩
            have n4_ : Aside0 (w21.heap[gb220]? = some (.cells #[.slice none 0 0, .slice none 0 0] 25 (0, 0))) := ⟨h4_⟩
            have n5_ : Aside0 (w.heap.size ≤ gb220) := ⟨h5_⟩
            have n6_ : Aside0 (w.heap.size ≤ gb220) := ⟨h6_⟩
            have n7_ : Aside0 (gb211 ≠ gb220) := ⟨h7_⟩
            have n8_ : Aside0 (gb220 ≠ gb211) := ⟨h8_⟩
            have n9_ : Aside0 (gb212 ≠ gb220) := ⟨h9_⟩
            have n10_ : Aside0 (gb220 ≠ gb212) := ⟨h10_⟩
            have n11_ : Aside0 (Below w.heap.size w w21) := ⟨h11_⟩
            clear BK211
            clear BK212
            clear HB
            clear h0_ h1_ h2_ h3_ h4_ h5_ h6_ h7_ h8_ h9_ h10_ h11_
            have HO216 := n0_
            have HO219 := n1_
            have BK211 := n2_
            have BK212 := n3_
            have BK220 := n4_
            have GW220 := n5_
            have GE220 := n6_
            have NB211_220 := n7_
            have NB220_211 := n8_
            have NB212_220 := n9_
            have NB220_212 := n10_
            have HB := n11_
            clear n0_ n1_ n2_ n3_ n4_ n5_ n6_ n7_ n8_ n9_ n10_ n11_
            have hHeld : w21.cell? ⟨gb211, 0, none⟩ = some (.slice A0_0 l0_0.length c0_0) ∧ w21.cell? ⟨gb211, 1, none⟩ = some (.slice A0_1 l0_1.length c0_1) := hS_
            obtain ⟨Ao22, co22, eo22⟩ := Kd.S_slice HO219.out
            (first | subst eo22 | (injection eo22 with f1_ f2_ f3_; have f4_ := f1_.symm; have f5_ := f3_.symm; clear f1_ f2_ f3_; subst f4_; subst f5_))
            obtain ⟨Ao23, co23, eo23⟩ := Kd.R_slice HO216.out
            (first | subst eo23 | (injection eo23 with f1_ f2_ f3_; have f4_ := f1_.symm; have f5_ := f3_.symm; clear f1_ f2_ f3_; subst f4_; subst f5_))
            refine norm_ (a' := ?_) ?_ ?_
            rotate_left
            · simp only [putAll, Act.put, List.setIfInBounds_toArray, List.set_cons_zero, List.set_cons_succ]
              rfl
            refine one_ (i := 10) (N := none) #[true, true, true, true, true, true, true, true, true, true, true] rfl rfl (one_of HT_.out (by kernel_rfl)) (by decide) (fun K hK => ?_)
            have hs24 : w21.cell? ⟨gb220, 0, none⟩ = some (.slice none 0 0) := (blk_cell BK220.out 0).trans rfl
            have hfs24 := blk_frozen BK220.out 0
            have hns24_0 := NB211_220.out
            have hns24_1 := NB212_220.out
            have hms24_0 := NB220_211.out
            have hms24_1 := NB220_212.out
            have hs25 : w21.cell? ⟨gb220, 1, none⟩ = some (.slice none 0 0) := (blk_cell BK220.out 1).trans rfl
            have hfs25 := blk_frozen BK220.out 1
            have hns25_0 := NB211_220.out
            have hns25_1 := NB212_220.out
            have hms25_0 := NB220_211.out
            have hms25_1 := NB220_212.out
            refine skip_ (w1 := ?_) (by rfl) rfl ?_ ?_
            rotate_left
            · go_simp
              rfl
            refine hK.out _ _ ⟨((cell_far (p := ⟨gb220, _, none⟩) NB211_220.out _).trans (((cell_far (p := ⟨gb220, _, none⟩) NB211_220.out _).trans (hHeld.1)))), ((cell_far (p := ⟨gb220, _, none⟩) NB211_220.out _).trans (((cell_far (p := ⟨gb220, _, none⟩) NB211_220.out _).trans (hHeld.2))))⟩ (fun hHeld => ?_)
            clear hK K
            refine done_ (done_of HT_.out (by kernel_rfl)) ?_
            have hnb26 := NB211_220.out
            have hnc26 := NB220_211.out
            have hcz27_0 : w21.cell? ⟨gb211, 0, none⟩ = some (.slice A0_0 l0_0.length c0_0) := (blk_cell BK211.out 0).trans rfl
            have hcz27_1 : w21.cell? ⟨gb211, 1, none⟩ = some (.slice A0_1 l0_1.length c0_1) := (blk_cell BK211.out 1).trans rfl
            have hfz27_0 := blk_frozen BK211.out 0
            have hfz27_1 := blk_frozen BK211.out 1
            try go_wp2
            go_loopg [26] k (fun kq v26 w' => ∃ (x26_1 : Int) (x221000_1 : List Int) (x221001_1 : List (List Int)) (u221000 : Value) (u221001 : Value), v26 = .int .i64 x26_1 ∧ Aside0 (lure_Exchange.l0 kq l0_0 (l0_0.length : Int) x26_1 l0_0 l0_1 x221000_1 x221001_1 = some (r1, r2, r3)) ∧ Aside0 (kq ≤ k) ∧ Aside0 (Kd.R (Kd.int .i64) 3 w' w.heap.size (fun k_ => (w.heap.size ≤ k_)) u221000 x221000_1) ∧ Aside0 (Kd.S (Kd.slice 3 (Kd.int .i64)) 22 w' w.heap.size (fun k_ => (w.heap.size ≤ k_) ∧ some k_ ≠ (u221000 : Value).ownBlock ∧ k_ ≠ gb211 ∧ k_ ≠ gb212 ∧ k_ ≠ gb220) u221001 x221001_1) ∧ Aside0 (w'.heap[gb211]? = some (.cells #[(.slice A0_0 l0_0.length c0_0), (.slice A0_1 l0_1.length c0_1)] 25 (0, 0))) ∧ Aside0 (w'.heap[gb212]? = some (.cells #[(.slice none 0 0), (.slice none 0 0)] 25 (0, 0))) ∧ Aside0 (w'.heap[gb220]? = some (.cells #[u221000, u221001] 25 (0, 0))) ∧ Aside0 (Below w.heap.size w w'))
            case atStart => exact ⟨(0), (y214), (y217), (.slice Ao23 y214.length co23), (.slice Ao22 y217.length co22), (by first | rfl | (simp; done) | (simp [*]; done)), H', ⟨Nat.le_refl _⟩, ⟨by (with_reducible repeat (first | apply Kd.R_alloc | apply Kd.R_drewN | apply Kd.R_drew)); exact Kd.R_mono (Kd.R_far (p := ⟨gb220, 1, none⟩) (Kd.R_far (p := ⟨gb220, 0, none⟩) (Kd.R_types HO216.out BK220.out (by decide)) (fun _ hk => hk.2) (.slice Ao23 y214.length co23)) (fun _ hk => hk.2) (.slice Ao22 y217.length co22)) (fun _ hk => hk.1)⟩, ⟨by (with_reducible repeat (first | apply Kd.S_alloc | apply Kd.S_drewN | apply Kd.S_drew)); exact Kd.S_mono (Kd.S_far (p := ⟨gb220, 1, none⟩) (Kd.S_far (p := ⟨gb220, 0, none⟩) (Kd.S_mono HO219.out (fun k_ hk => (⟨hk, hk.2.2.2.2⟩ : _ ∧ k_ ≠ gb220))) (fun _ hk => hk.2) (.slice Ao23 y214.length co23)) (fun _ hk => hk.2) (.slice Ao22 y217.length co22)) (fun _ hk => ⟨hk.1.1, ⟨hk.1.2.1, ⟨hk.1.2.2.1, ⟨hk.1.2.2.2.1, hk.1.2.2.2.2⟩⟩⟩⟩)⟩, ⟨by (with_reducible repeat (first | refine blk_drewN ?_ _ | refine blk_drew ?_ | refine blk_alloc ?_ _)); refine blk_far ?_ NB211_220.out _; (with_reducible repeat (first | refine blk_drewN ?_ _ | refine blk_drew ?_ | refine blk_alloc ?_ _)); refine blk_far ?_ NB211_220.out _; (with_reducible repeat (first | refine blk_drewN ?_ _ | refine blk_drew ?_ | refine blk_alloc ?_ _)); exact BK211.out⟩, ⟨by (with_reducible repeat (first | refine blk_drewN ?_ _ | refine blk_drew ?_ | refine blk_alloc ?_ _)); refine blk_far ?_ NB212_220.out _; (with_reducible repeat (first | refine blk_drewN ?_ _ | refine blk_drew ?_ | refine blk_alloc ?_ _)); refine blk_far ?_ NB212_220.out _; (with_reducible repeat (first | refine blk_drewN ?_ _ | refine blk_drew ?_ | refine blk_alloc ?_ _)); exact BK212.out⟩, ⟨by (with_reducible repeat (first | refine blk_drewN ?_ _ | refine blk_drew ?_ | refine blk_alloc ?_ _)); refine blk_put (cs := #[.slice Ao23 y214.length co23, .slice none 0 0]) ?_ 1 _ rfl; (with_reducible repeat (first | refine blk_drewN ?_ _ | refine blk_drew ?_ | refine blk_alloc ?_ _)); refine blk_put (cs := #[.slice none 0 0, .slice none 0 0]) ?_ 0 _ rfl; (with_reducible repeat (first | refine blk_drewN ?_ _ | refine blk_drew ?_ | refine blk_alloc ?_ _)); exact BK220.out⟩, ⟨by repeat (first | (with_reducible first | exact HB.out | apply below_alloc | apply pw_below_drewN | apply below_drew1 | refine below_set ?_ GE211.out | refine below_set ?_ GE212.out | refine below_set ?_ GE220.out) | exact HB.out)⟩⟩
            case round =>
              clear H'
              try clear c2
              try clear p2
              try clear c26
              try clear hcz27_0
              try clear hcz27_1
              try clear hfz27_0
              try clear hfz27_1
              obtain ⟨x26_1, x221000_1, x221001_1, u221000, u221001, rfl, HA, HK1, HO_221000, HO_221001, BK211, BK212, BK220, HB⟩ := hrel
              cases gk with
              | zero => exact absurd HA.out (by simp [lure_Exchange.l0])
              | succ k1 =>
                have H := HA.out
                clear HA
                simp only [lure_Exchange.l0] at H
                by_cases c28 : x26_1 < (l0_0.length : Int)
                · rw [if_pos c28] at H
                  have c28b0 : decide (x26_1 < (l0_0.length : Int)) = true := decide_eq_true c28
                  clear c28
                  by_cases c29 : 0 ≤ x26_1
                  · rw [if_pos c29] at H
                    have c29b0 : decide (0 ≤ x26_1) = true := decide_eq_true c29
                    clear c29
                    by_cases c30 : x26_1 < (l0_0.length : Int)
                    · rw [if_pos c30] at H
                      have c30b0 : decide (x26_1 < (l0_0.length : Int)) = true := decide_eq_true c30
                      clear c30
                      by_cases c31 : x26_1 < (x221000_1.length : Int)
                      · rw [if_pos c31] at H
                        have c31b0 : decide (x26_1 < (x221000_1.length : Int)) = true := decide_eq_true c31
                        clear c31
                        obtain ⟨y222, hy222⟩ : ∃ y_ : List Int, y_ = (x221000_1.set (x26_1 : Int).toNat (wrap64 (1 - (rd l0_0 x26_1)))) := ⟨_, rfl⟩
                        rw [← hy222] at H
                        have Ny222 := Aside0.mk hy222
                        clear hy222
                        by_cases c33 : x26_1 < (l0_1.length : Int)
                        · rw [if_pos c33] at H
                          have c33b0 : decide (x26_1 < (l0_1.length : Int)) = true := decide_eq_true c33
                          clear c33
                          by_cases c34 : 0 ≤ ((rd_L1 l0_1 x26_1).length : Int)
                          · rw [if_pos c34] at H
                            have c34b0 := eq_true c34
                            have c34b1 : decide (0 ≤ ((rd_L1 l0_1 x26_1).length : Int)) = true := decide_eq_true c34
                            clear c34
                            by_cases c35 : (((rd_L1 l0_1 x26_1).length : Int) : Int).toNat ≤ 35184372088832
                            · rw [if_pos c35] at H
                              have c35b0 := eq_true c35
                              have c35b1 : decide ((((rd_L1 l0_1 x26_1).length : Int) : Int).toNat ≤ 35184372088832) = true := decide_eq_true c35
                              clear c35
                              obtain ⟨y224, hy224⟩ : ∃ y_ : List Int, y_ = (List.replicate (((rd_L1 l0_1 x26_1).length : Int) : Int).toNat 0) := ⟨_, rfl⟩
                              have Ny224 := Aside0.mk hy224
                              clear hy224
                              by_cases c36 : x26_1 < (x221001_1.length : Int)
                              · rw [if_pos c36] at H
                                have c36b0 : decide (x26_1 < (x221001_1.length : Int)) = true := decide_eq_true c36
                                clear c36
                                by_cases c37 : 0 < (rd_L1 l0_1 x26_1).length
                                · rw [if_pos c37] at H
                                  have HC37 := Aside0.mk c37
                                  clear c37
                                  obtain ⟨y227, hy227⟩ : ∃ y_ : List (List Int), y_ = (x221001_1.set (x26_1 : Int).toNat y224) := ⟨_, rfl⟩
                                  have Ny227 := Aside0.mk hy227
                                  clear hy227
                                  obtain ⟨y229, hy229⟩ : ∃ y_ : List (List Int), y_ = (x221001_1.set (x26_1 : Int).toNat (rd_L1 l0_1 x26_1)) := ⟨_, rfl⟩
                                  rw [← hy229] at H
                                  have Ny229 := Aside0.mk hy229
                                  clear hy229
                                  have H' := Aside0.mk H
                                  clear H
                                  have p221 : 0 ≤ (x26_1 : Int) := of_decide_eq_true (by first | (with_reducible assumption) | assumption)
                                  have q221 : x26_1 < (l0_0.length : Int) := of_decide_eq_true (by first | (with_reducible assumption) | assumption)
                                  obtain ⟨ad221, e221, hx221_0⟩ := Kd.at_int HR0_0.out x26_1 p221 q221
                                  cases e221
                                  replace hx221_0 := (HB.out.cell (World.block_lt_of_cell? w _ hx221_0)).trans hx221_0
                                  replace p221 := eq_true p221
                                  replace q221 := eq_true q221
                                  have hnb38 := NB220_211.out
                                  have hnc38 := NB211_220.out
                                  have hnb39 := NB220_212.out
                                  have hnc39 := NB212_220.out
                                  have hcz40_0 : wr.cell? ⟨gb220, 0, none⟩ = some (u221000) := (blk_cell BK220.out 0).trans rfl
                                  have hcz40_1 : wr.cell? ⟨gb220, 1, none⟩ = some (u221001) := (blk_cell BK220.out 1).trans rfl
                                  have hfz40_0 := blk_frozen BK220.out 0
                                  have hfz40_1 := blk_frozen BK220.out 1
                                  have p32 : 0 ≤ (x26_1 : Int) := of_decide_eq_true (by first | (with_reducible assumption) | assumption)
                                  have q32 : (x26_1 : Int) < ((x221000_1.length : Int) : Int) := of_decide_eq_true (by first | (with_reducible assumption) | assumption)
                                  obtain ⟨go32, co32, eo32, gb32, gl32, cl32, HG32⟩ := Kd.R_form HO_221000.out (by omega)
                                  (first | cases eo32 | (injection eo32 with ea_ en_ ec_; (first | subst ea_ | (injection ea_ with ea_; subst ea_)); subst ec_; clear en_))
                                  have GB32 := Aside0.mk gb32
                                  have GG32 := Aside0.mk HG32
                                  clear gb32 gl32 HG32
                                  obtain ⟨hx32_0, hf32_0⟩ := Kd.R_celln 0 HO_221000.out (x26_1 : Int) p32 q32
                                  replace p32 := eq_true p32
                                  replace q32 := eq_true q32
                                  have HP41 := Kd.R_putg HO_221000.out (x26_1 : Int) (wrap64 (1 - (rd l0_0 x26_1)))
                                  try go_wp2_with (first | ((with_reducible refine gate_store (t := 3) (p := 36) rfl ?_); refine store_event (t := 3) (p := 36) (v := ?vo_w42) (w1 := (wr.setCell ⟨go32, (x26_1 : Int).toNat, none⟩ (.int .i64 (wrap64 (1 - (rd l0_0 x26_1)))))) ?hg ?ho ?hn ?hr ?_; (case ho => rfl); (case hg => rfl); (case hn => rfl); (case hr => first | (go_simp; done) | (go_simp; rfl)); intro w42 hw; have hg : wr.grownBy w42 (some go32) := (by rw [hw]; exact HP41.2); have hp_ : Kd.R (Kd.int .i64) 3 w42 w.heap.size (fun k_ => (w.heap.size ≤ k_)) (.slice (some ⟨go32, 0, none⟩) x221000_1.length co32) y222 := (by rw [hw, Ny222.out]; exact HP41.1); clear HP41; have n0_ := Aside0.mk (hp_); have n1_ := Aside0.mk (Kd.S_after (v := (.slice (some ⟨go32, 0, none⟩) x221000_1.length co32)) (v1 := (.slice (some ⟨go32, 0, none⟩) x221000_1.length co32)) (ok := (fun k_ => (w.heap.size ≤ k_) ∧ k_ ≠ gb211 ∧ k_ ≠ gb212 ∧ k_ ≠ gb220)) (by (with_reducible repeat (first | apply Kd.S_alloc | apply Kd.S_drewN | apply Kd.S_drew)); exact Kd.S_mono HO_221001.out (fun _ hk => ⟨⟨hk.1, ⟨hk.2.2.1, ⟨hk.2.2.2.1, hk.2.2.2.2⟩⟩⟩, hk.2.1⟩)) hg (.inl rfl)); have n2_ := Aside0.mk (blk_grown (g := gb211) (o := .cells #[.slice (some ad221) l0_0.length c0_0, .slice A0_1 l0_1.length c0_1] 25 (0, 0)) (by (with_reducible repeat (first | refine blk_drewN ?_ _ | refine blk_drew ?_ | refine blk_alloc ?_ _)); exact BK211.out) hg (Kd.R_ne HO_221000.out BK211.out (by decide))); have n3_ := Aside0.mk (blk_grown (g := gb212) (o := .cells #[.slice none 0 0, .slice none 0 0] 25 (0, 0)) (by (with_reducible repeat (first | refine blk_drewN ?_ _ | refine blk_drew ?_ | refine blk_alloc ?_ _)); exact BK212.out) hg (Kd.R_ne HO_221000.out BK212.out (by decide))); have n4_ := Aside0.mk (blk_grown (g := gb220) (o := .cells #[.slice (some ⟨go32, 0, none⟩) x221000_1.length co32, u221001] 25 (0, 0)) (by (with_reducible repeat (first | refine blk_drewN ?_ _ | refine blk_drew ?_ | refine blk_alloc ?_ _)); exact BK220.out) hg (Kd.R_ne HO_221000.out BK220.out (by decide))); have n5_ := Aside0.mk ((by rw [hw]; exact below_set (HB.out) GB32.out : Below w.heap.size w w42)); clear HO_221000; clear HO_221001; clear BK211; clear BK212; clear BK220; clear HB; have HO_221000 := n0_; have HO_221001 := n1_; have BK211 := n2_; have BK212 := n3_; have BK220 := n4_; have HB := n5_; clear n0_ n1_ n2_ n3_ n4_ n5_; clear hg hw hp_))
                                  have n0_ := Aside0.mk (Kd.R_drew HO_221000.out)
                                  have n1_ := Aside0.mk (Kd.S_drew HO_221001.out)
                                  have n2_ := Aside0.mk (blk_drew BK211.out)
                                  have n3_ := Aside0.mk (blk_drew BK212.out)
                                  have n4_ := Aside0.mk (blk_drew BK220.out)
                                  have n5_ := Aside0.mk (below_drew1 HB.out)
                                  clear HO_221000
                                  clear HO_221001
                                  clear BK211
                                  clear BK212
                                  clear BK220
                                  clear HB
                                  have HO_221000 := n0_
                                  have HO_221001 := n1_
                                  have BK211 := n2_
                                  have BK212 := n3_
                                  have BK220 := n4_
                                  have HB := n5_
                                  clear n0_ n1_ n2_ n3_ n4_ n5_
                                  have p223 : 0 ≤ (x26_1 : Int) := of_decide_eq_true (by first | (with_reducible assumption) | assumption)
                                  have q223 : x26_1 < (l0_1.length : Int) := of_decide_eq_true (by first | (with_reducible assumption) | assumption)
                                  obtain ⟨ad223, A223_0, c223_0, e223, hx223_0, hl223_0, hi223_0⟩ := at_L1 HR0_1.out x26_1 p223 q223
                                  have hw223_0 := hx223_0
                                  cases e223
                                  replace hx223_0 := (HB.out.cell (World.block_lt_of_cell? w _ hx223_0)).trans hx223_0
                                  have HR223_0 := Aside0.mk hi223_0
                                  have HC223_0 := Aside0.mk hl223_0
                                  clear hi223_0 hl223_0
                                  replace p223 := eq_true p223
                                  replace q223 := eq_true q223
                                  refine start_ (n := 12) (S := fun w' => w'.cell? ⟨gb220, 0, none⟩ = some (.slice (some ⟨go32, 0, none⟩) x221000_1.length co32) ∧ w'.cell? ⟨gb220, 1, none⟩ = some (u221001) ∧ w'.cell? ⟨gb211, 0, none⟩ = some (.slice (some ad221) l0_0.length c0_0) ∧ w'.cell? ⟨gb211, 1, none⟩ = some (.slice (some ad223) l0_1.length c0_1) ∧ w'.cell? (ad223.add (x26_1).toNat) = some (.slice A223_0 (rd_L1 l0_1 x26_1).length c223_0)) (ds := [11]) #[false, false, false, false, false, false, false, false, false, false, false, false] (by kernel_rfl) rfl rfl ⟨(blk_cell BK220.out 0).trans rfl, (blk_cell BK220.out 1).trans rfl, (blk_cell BK211.out 0).trans rfl, (blk_cell BK211.out 1).trans rfl, ((HB.out.cell (World.block_lt_of_cell? w _ hw223_0)).trans hw223_0)⟩ (fun hHeld => ?_); refine with_tabW lure_Exchange.tab9 lure_Exchange.bits9 (fun HT_ HW_ => ?_)
                                  generalize w42.drew = w43 at HO_221000 HO_221001 BK211 BK212 BK220 HB HR223_0 hx223_0 hHeld ⊢
                                  refine pure_ (i := 0) (N := some 37) (v := ?_) (a' := ?_) #[true, false, false, false, false, false, false, false, false, false, false, false] rfl rfl (any_of HT_.out (by kernel_rfl)) (fun _ _ _ h => h) (Or.inl ⟨by rfl, ?_⟩) ?_ ?_
                                  rotate_left
                                  · intro w'
                                    go_simp
                                    with_reducible rfl
                                  rotate_left
                                  · simp only [Act.put, List.setIfInBounds_toArray, List.set_cons_zero, List.set_cons_succ, i64_w, i32_w]
                                    rfl
                                  refine pure_ (i := 2) (N := some 39) (v := ?_) (a' := ?_) #[true, false, true, false, false, false, false, false, false, false, false, false] rfl rfl (any_of HT_.out (by kernel_rfl)) (fun _ _ _ h => h) (Or.inl ⟨by rfl, ?_⟩) ?_ ?_
                                  rotate_left
                                  · intro w'
                                    go_simp
                                    with_reducible rfl
                                  rotate_left
                                  · simp only [Act.put, List.setIfInBounds_toArray, List.set_cons_zero, List.set_cons_succ, i64_w, i32_w]
                                    rfl
                                  refine pure_ (i := 3) (N := some 40) (v := ?_) (a' := ?_) #[true, false, true, true, false, false, false, false, false, false, false, false] rfl rfl (any_of HT_.out (by kernel_rfl)) (fun _ _ _ h => h) (Or.inl ⟨by rfl, ?_⟩) ?_ ?_
                                  rotate_left
                                  · intro w'
                                    go_simp
                                    with_reducible rfl
                                  rotate_left
                                  · simp only [Act.put, List.setIfInBounds_toArray, List.set_cons_zero, List.set_cons_succ, i64_w, i32_w]
                                    rfl
                                  refine pure_ (i := 5) (N := some 42) (v := ?_) (a' := ?_) #[true, false, true, true, false, true, false, false, false, false, false, false] rfl rfl (any_of HT_.out (by kernel_rfl)) (fun _ _ _ h => h) (Or.inl ⟨by rfl, ?_⟩) ?_ ?_
                                  rotate_left
                                  · intro w'
                                    go_simp
                                    with_reducible rfl
                                  rotate_left
                                  · simp only [Act.put, List.setIfInBounds_toArray, List.set_cons_zero, List.set_cons_succ, i64_w, i32_w]
                                    rfl
                                  refine take_ (i := 1) (N := some 38) (v := ?_) (a' := ?_) #[true, true, true, true, false, true, false, false, false, false, false, false] rfl rfl (take_ofW HT_.out HW_.out (by kernel_rfl)) (fun _ _ _ h => h) (Or.inl ⟨by rfl, ?_⟩) hHeld ?_ ?_
                                  rotate_left
                                  · rintro w' ⟨s0, s1, s2, s3, s4⟩
                                    go_simp
                                    with_reducible rfl
                                  rotate_left
                                  · simp only [Act.put, List.setIfInBounds_toArray, List.set_cons_zero, List.set_cons_succ, i64_w, i32_w]
                                    rfl
                                  refine take_ (i := 4) (N := some 41) (v := ?_) (a' := ?_) #[true, true, true, true, true, true, false, false, false, false, false, false] rfl rfl (take_ofW HT_.out HW_.out (by kernel_rfl)) (fun _ _ _ h => h) (Or.inl ⟨by rfl, ?_⟩) hHeld ?_ ?_
                                  rotate_left
                                  · rintro w' ⟨s0, s1, s2, s3, s4⟩
                                    go_simp
                                    with_reducible rfl
                                  rotate_left
                                  · simp only [Act.put, List.setIfInBounds_toArray, List.set_cons_zero, List.set_cons_succ, i64_w, i32_w]
                                    rfl
                                  refine pure_ (i := 6) (N := some 43) (v := ?_) (a' := ?_) #[true, true, true, true, true, true, true, false, false, false, false, false] rfl rfl (any_of HT_.out (by kernel_rfl)) (fun _ _ _ h => h) (Or.inl ⟨by rfl, ?_⟩) ?_ ?_
                                  rotate_left
                                  · intro w'
                                    go_simp
                                    with_reducible rfl
                                  rotate_left
                                  · simp only [Act.put, List.setIfInBounds_toArray, List.set_cons_zero, List.set_cons_succ, i64_w, i32_w]
                                    rfl
                                  refine take_ (i := 7) (N := some 44) (v := ?_) (a' := ?_) #[true, true, true, true, true, true, true, true, false, false, false, false] rfl rfl (take_ofW HT_.out HW_.out (by kernel_rfl)) (fun _ _ _ h => h) (Or.inl ⟨by rfl, ?_⟩) hHeld ?_ ?_
                                  rotate_left
                                  · rintro w' ⟨s0, s1, s2, s3, s4⟩
                                    go_simp
                                    with_reducible rfl
                                  rotate_left
                                  · simp only [Act.put, List.setIfInBounds_toArray, List.set_cons_zero, List.set_cons_succ, i64_w, i32_w]
                                    rfl
                                  refine pure_ (i := 8) (N := some 45) (v := ?_) (a' := ?_) #[true, true, true, true, true, true, true, true, true, false, false, false] rfl rfl (any_of HT_.out (by kernel_rfl)) (fun _ _ _ h => h) (Or.inl ⟨by rfl, ?_⟩) ?_ ?_
                                  rotate_left
                                  · intro w'
                                    go_simp
                                    with_reducible rfl
                                  rotate_left
                                  · simp only [Act.put, List.setIfInBounds_toArray, List.set_cons_zero, List.set_cons_succ, i64_w, i32_w]
                                    rfl
                                  refine one_ (i := 9) (N := some 46) #[true, true, true, true, true, true, true, true, true, true, false, false] rfl rfl (one_of HT_.out (by kernel_rfl)) (by decide) (fun K hK => ?_)
                                  refine Kd.R_make_step (Kd.int .i64) _ 3 (by rfl) (N := 46) rfl 22 _ _ rfl ((rd_L1 l0_1 x26_1).length : Int) rfl rfl Try.underlying22 (.int .i64 0) 8 info3 rfl (by decide) (by omega) 0 (ok := fun _ => True) (okp := fun _ => True) rfl (fun _ hk => hk) trivial (of_decide_eq_true (by first | (with_reducible assumption) | assumption)) (Nat.le_trans (Nat.mul_le_mul_right _ (of_decide_eq_true (by first | (with_reducible assumption) | assumption) : ((rd_L1 l0_1 x26_1).length : Int).toNat ≤ 35184372088832)) (by omega)) (Below.refl _ _) (Nat.le_refl _) ?_
                                  intro v225 w44 ho45 hb hg_ hnew_
                                  clear hg_ hnew_
                                  (first | rw [← Ny224.out] at ho45 | (simp only [Int.reduceToNat] at ho45; rw [← Ny224.out] at ho45))
                                  have L224 : y224.length = (rd_L1 l0_1 x26_1).length := by rw [Ny224.out, List.length_replicate, Int.toNat_natCast]
                                  obtain ⟨gr, cr, er, gbr, glr, cellsr, HGr⟩ := Kd.R_form ho45 (by have := HC37.out; omega)
                                  subst er
                                  have LR := Aside0.mk L224
                                  clear L224 gbr glr HGr
                                  have n0_ := Aside0.mk (Kd.R_elder' (by (with_reducible repeat (first | apply Kd.R_alloc | apply Kd.R_drewN | apply Kd.R_drew)); exact HO_221000.out) (Kd.R_base ho45) hb)
                                  have n1_ := Aside0.mk (Kd.S_elder' (by (with_reducible repeat (first | apply Kd.S_alloc | apply Kd.S_drewN | apply Kd.S_drew)); exact HO_221001.out) (Kd.R_base ho45) hb)
                                  have n2_ := Aside0.mk (Kd.R_lower (Kd.R_new' (Kd.R_newM (M := fun k_ => (w.heap.size ≤ k_)) ho45 (below_size (by repeat (first | (with_reducible first | exact HB.out | apply below_alloc | apply pw_below_drewN | apply below_drew1 | refine below_set ?_ GE211.out | refine below_set ?_ GE212.out | refine below_set ?_ GE220.out) | exact HB.out))) (fun k_ h_ => h_)) (Kd.R_lt (by (with_reducible repeat (first | apply Kd.R_alloc | apply Kd.R_drewN | apply Kd.R_drew)); exact HO_221000.out))) (below_size (by repeat (first | (with_reducible first | exact HB.out | apply below_alloc | apply pw_below_drewN | apply below_drew1 | refine below_set ?_ GE211.out | refine below_set ?_ GE212.out | refine below_set ?_ GE220.out) | exact HB.out))))
                                  have n3_ := Aside0.mk (blk_below (g := gb211) (o := .cells #[.slice (some ad221) l0_0.length c0_0, .slice (some ad223) l0_1.length c0_1] 25 (0, 0)) (by (with_reducible repeat (first | refine blk_drewN ?_ _ | refine blk_drew ?_ | refine blk_alloc ?_ _)); exact BK211.out) hb)
                                  have n4_ := Aside0.mk (blk_below (g := gb212) (o := .cells #[.slice none 0 0, .slice none 0 0] 25 (0, 0)) (by (with_reducible repeat (first | refine blk_drewN ?_ _ | refine blk_drew ?_ | refine blk_alloc ?_ _)); exact BK212.out) hb)
                                  have n5_ := Aside0.mk (blk_below (g := gb220) (o := .cells #[.slice (some ⟨go32, 0, none⟩) x221000_1.length co32, u221001] 25 (0, 0)) (by (with_reducible repeat (first | refine blk_drewN ?_ _ | refine blk_drew ?_ | refine blk_alloc ?_ _)); exact BK220.out) hb)
                                  have n6_ := Aside0.mk (below_step (by repeat (first | (with_reducible first | exact HB.out | apply below_alloc | apply pw_below_drewN | apply below_drew1 | refine below_set ?_ GE211.out | refine below_set ?_ GE212.out | refine below_set ?_ GE220.out) | exact HB.out)) hb)
                                  clear HO_221000
                                  clear HO_221001
                                  clear BK211
                                  clear BK212
                                  clear BK220
                                  clear HB
                                  have HO_221000 := n0_
                                  have HO_221001 := n1_
                                  have HO226 := n2_
                                  have BK211 := n3_
                                  have BK212 := n4_
                                  have BK220 := n5_
                                  have HB := n6_
                                  clear n0_ n1_ n2_ n3_ n4_ n5_ n6_
                                  clear hb ho45
                                  have p37 : 0 ≤ (x26_1 : Int) := of_decide_eq_true (by first | (with_reducible assumption) | assumption)
                                  have q37 : (x26_1 : Int) < ((x221001_1.length : Int) : Int) := of_decide_eq_true (by first | (with_reducible assumption) | assumption)
                                  obtain ⟨go37, co37, eo37, gb37, gl37, cl37, HG37⟩ := Kd.S_form HO_221001.out (by omega)
                                  (first | cases eo37 | (injection eo37 with ea_ en_ ec_; (first | subst ea_ | (injection ea_ with ea_; subst ea_)); subst ec_; clear en_))
                                  have GB37 := Aside0.mk gb37
                                  have GG37 := Aside0.mk HG37
                                  clear gb37 gl37 HG37
                                  obtain ⟨oki37, ce37, hcl37, hM37, hcc37, hfr37, hoki37, hH37⟩ := Kd.S_elem HO_221001.out [] (x26_1 : Int) p37 q37
                                  obtain ⟨vv37, rfl, hvR37⟩ := hM37
                                  obtain ⟨ua37_0, uc37_0, rfl⟩ := Kd.R_slice hvR37
                                  clear hoki37 hH37
                                  have hx37_0 := hcc37 0 _ rfl
                                  have hf37_0 := hfr37 0
                                  (try simp only [show ((Kd.slice 3 (Kd.int .i64))).sz = 1 from rfl, Nat.mul_one, Nat.add_zero] at hx37_0)
                                  (try simp only [show ((Kd.slice 3 (Kd.int .i64))).sz = 1 from rfl, Nat.mul_one, Nat.add_zero] at hf37_0)
                                  clear hcl37 hcc37 hfr37 hvR37
                                  replace p37 := eq_true p37
                                  replace q37 := eq_true q37
                                  have HX46 := Aside0.mk (show Kd.S (Kd.slice 3 (Kd.int .i64)) 22 _ w.heap.size (fun k_ => (w.heap.size ≤ k_) ∧ some k_ ≠ (.slice (some ⟨go32, 0, none⟩) x221000_1.length co32 : Value).ownBlock ∧ some k_ ≠ (.slice (some ⟨gr, 0, none⟩) y224.length cr : Value).ownBlock ∧ k_ ≠ gb211 ∧ k_ ≠ gb212 ∧ k_ ≠ gb220) (.slice (some ⟨go37, 0, none⟩) x221001_1.length co37) x221001_1 from (Kd.S_mono (HO_221001.out) (fun k_ hk => ⟨hk.1.1.1, ⟨hk.1.2, ⟨hk.2, ⟨hk.1.1.2.1, ⟨hk.1.1.2.2.1, hk.1.1.2.2.2⟩⟩⟩⟩⟩)))
                                  have CR := Aside0.mk (show y224.length ≤ cr from (Kd.R_reads' HO226.out).2.1)
                                  have KR := Aside0.mk (exch_cells HO226.out (by have := HC37.out; have := LR.out; omega))
                                  have HOKr := Aside0.mk ((Kd.R_mono (ok' := (fun k_ => ((w.heap.size ≤ k_) ∧ some k_ ≠ (.slice (some ⟨go32, 0, none⟩) x221000_1.length co32 : Value).ownBlock ∧ k_ ≠ gb211 ∧ k_ ≠ gb212 ∧ k_ ≠ gb220) ∧ k_ ≠ go37)) (Kd.R_types (Kd.R_types (Kd.R_types (Kd.R_apart' (HO226.out) (Kd.S_typed HO_221001.out) (by decide)) BK211.out (by decide)) BK212.out (by decide)) BK220.out (by decide)) (by intro k_ hk; exact ⟨⟨hk.1.1.1.1.1.1, ⟨hk.1.1.1.1.2, ⟨hk.1.1.2, ⟨hk.1.2, hk.2⟩⟩⟩⟩, fun e_ => (hk.1.1.1.2) (by rw [e_]; rfl)⟩)).1 gr rfl)
                                  have HXR := Aside0.mk (show Kd.S (Kd.slice 3 (Kd.int .i64)) 22 _ w.heap.size (fun k_ => ((w.heap.size ≤ k_) ∧ some k_ ≠ (.slice (some ⟨go32, 0, none⟩) x221000_1.length co32 : Value).ownBlock ∧ k_ ≠ gb211 ∧ k_ ≠ gb212 ∧ k_ ≠ gb220) ∧ k_ ≠ gr) (.slice (some ⟨go37, 0, none⟩) x221001_1.length co37) x221001_1 from Kd.S_mono HX46.out (fun k_ hk => ⟨⟨hk.1, ⟨hk.2.1, ⟨hk.2.2.2.1, ⟨hk.2.2.2.2.1, hk.2.2.2.2.2⟩⟩⟩⟩, fun e_ => hk.2.2.1 (by rw [e_]; rfl)⟩))
                                  replace HX46 := Aside0.mk (show Kd.S (Kd.slice 3 (Kd.int .i64)) 22 _ w.heap.size (fun k_ => (w.heap.size ≤ k_) ∧ some k_ ≠ (.slice (some ⟨go32, 0, none⟩) x221000_1.length co32 : Value).ownBlock ∧ k_ ≠ gb211 ∧ k_ ≠ gb212 ∧ k_ ≠ gb220) (.slice (some ⟨go37, 0, none⟩) x221001_1.length co37) x221001_1 from Kd.S_mono HX46.out (fun k_ hk => ⟨hk.1, ⟨hk.2.1, ⟨hk.2.2.2.1, ⟨hk.2.2.2.2.1, hk.2.2.2.2.2⟩⟩⟩⟩))
                                  obtain ⟨oki46, ce46, hcl46, hM46, hcc46, hfr46, hoki46, hH46⟩ := Kd.S_elem (ok := fun k_ => ((w.heap.size ≤ k_) ∧ some k_ ≠ (.slice (some ⟨go32, 0, none⟩) x221000_1.length co32 : Value).ownBlock ∧ k_ ≠ gb211 ∧ k_ ≠ gb212 ∧ k_ ≠ gb220) ∧ ¬ (k_ = gr)) HXR.out [] (x26_1 : Int) (of_decide_eq_true (by first | (with_reducible assumption) | assumption)) (of_decide_eq_true (by first | (with_reducible assumption) | assumption))
                                  obtain ⟨vv46, rfl, hvR46⟩ := hM46
                                  have HP46 := (Kd.S_seg (okg := fun k_ => k_ = gr) hH46 (of_decide_eq_true (by first | (with_reducible assumption) | assumption)) (of_decide_eq_true (by first | (with_reducible assumption) | assumption)) (seg := [(.slice (some ⟨gr, 0, none⟩) y224.length cr : Value)]) (j := 0) (show 1 ≤ 1 from by decide) (x' := y224) (okp := fun k_ => k_ = gr) ⟨_, rfl, Kd.R_reok rfl HO226.out (fun k_ hk => by injection hk with hk; exact hk.symm)⟩ (fun _ hk => Or.inr hk) (fun k_ hk => by rw [hk]; exact HOKr.out)).1
                                  (try simp only [show ((Kd.slice 3 (Kd.int .i64))).sz = 1 from rfl, Nat.mul_one, Nat.add_zero] at HP46)
                                  rw [← Ny227.out] at HP46
                                  have HQ46 := Aside0.mk HP46
                                  clear hcl46 hcc46 hfr46 hvR46 hoki46 hH46 HP46
                                  refine hK.out _ _ ⟨(blk_cell BK220.out 0).trans rfl, (blk_cell BK220.out 1).trans rfl, (blk_cell BK211.out 0).trans rfl, (blk_cell BK211.out 1).trans rfl, ((HB.out.cell (World.block_lt_of_cell? w _ hw223_0)).trans hw223_0)⟩ (fun hHeld => ?_)
                                  clear hK K
                                  refine norm_ (a' := ?_) ?_ ?_
                                  rotate_left
                                  · show Act.put _ (some 46) _ = _
                                    simp only [Act.put, List.setIfInBounds_toArray, List.set_cons_zero, List.set_cons_succ, i64_w, i32_w]
                                    rfl
                                  refine pure_ (i := 10) (N := some 47) (v := ?_) (a' := ?_) #[true, true, true, true, true, true, true, true, true, true, true, false] rfl rfl (any_of HT_.out (by kernel_rfl)) (fun _ _ _ h => h) (Or.inl ⟨by rfl, ?_⟩) ?_ ?_
                                  rotate_left
                                  · intro w'
                                    go_simp
                                    with_reducible rfl
                                  rotate_left
                                  · simp only [Act.put, List.setIfInBounds_toArray, List.set_cons_zero, List.set_cons_succ, i64_w, i32_w]
                                    rfl
                                  refine last_ (i := 11) (N := none) #[true, true, true, true, true, true, true, true, true, true, true, true] rfl rfl (one_of HT_.out (by kernel_rfl)) (by decide) (fun K hK => ?_)
                                  refine skip_ (w1 := ?_) (by rfl) rfl ?_ ?_
                                  rotate_left
                                  · go_simp
                                    rfl
                                  refine hK.out _ _ ?_
                                  clear hK K
                                  refine done_ (done_of HT_.out (by kernel_rfl)) ?_
                                  try go_wp2
                                  have n0_ : Aside0 (Kd.R (Kd.int .i64) 3 (w44.setCell ⟨go37, (x26_1 : Int).toNat, none⟩ (.slice (some ⟨gr, 0, none⟩) y224.length cr : Value)) w.heap.size (fun k_ => (w.heap.size ≤ k_)) (.slice (some ⟨go32, 0, none⟩) x221000_1.length co32) y222) := ⟨by (with_reducible repeat (first | apply Kd.R_alloc | apply Kd.R_drewN | apply Kd.R_drew)); exact Kd.R_mono (Kd.R_far (p := ⟨go37, (x26_1 : Int).toNat, none⟩) (Kd.R_types HO_221000.out GG37.out (by decide)) (fun _ hk => hk.2) (.slice (some ⟨gr, 0, none⟩) y224.length cr : Value)) (fun _ hk => hk.1.1)⟩
                                  have n1_ : Aside0 (Kd.S (Kd.slice 3 (Kd.int .i64)) 22 (w44.setCell ⟨go37, (x26_1 : Int).toNat, none⟩ (.slice (some ⟨gr, 0, none⟩) y224.length cr : Value)) w.heap.size (fun k_ => (w.heap.size ≤ k_) ∧ some k_ ≠ (.slice (some ⟨go32, 0, none⟩) x221000_1.length co32 : Value).ownBlock ∧ k_ ≠ gb211 ∧ k_ ≠ gb212 ∧ k_ ≠ gb220) (.slice (some ⟨go37, 0, none⟩) x221001_1.length co37) y227) := ⟨by (with_reducible repeat (first | apply Kd.S_alloc | apply Kd.S_drewN | apply Kd.S_drew)); exact HQ46.out⟩
                                  have n2_ : Aside0 ((w44.setCell ⟨go37, (x26_1 : Int).toNat, none⟩ (.slice (some ⟨gr, 0, none⟩) y224.length cr : Value)).heap[gb211]? = some (.cells #[.slice (some ad221) l0_0.length c0_0, .slice (some ad223) l0_1.length c0_1] 25 (0, 0))) := ⟨by (with_reducible repeat (first | refine blk_drewN ?_ _ | refine blk_drew ?_ | refine blk_alloc ?_ _)); refine blk_far ?_ (by have h_ := ((Kd.S_R HXR.out).1 go37 rfl).1.2.2.1; intro e_; exact h_ e_.symm) _; (with_reducible repeat (first | refine blk_drewN ?_ _ | refine blk_drew ?_ | refine blk_alloc ?_ _)); exact BK211.out⟩
                                  have n3_ : Aside0 ((w44.setCell ⟨go37, (x26_1 : Int).toNat, none⟩ (.slice (some ⟨gr, 0, none⟩) y224.length cr : Value)).heap[gb212]? = some (.cells #[.slice none 0 0, .slice none 0 0] 25 (0, 0))) := ⟨by (with_reducible repeat (first | refine blk_drewN ?_ _ | refine blk_drew ?_ | refine blk_alloc ?_ _)); refine blk_far ?_ (by have h_ := ((Kd.S_R HXR.out).1 go37 rfl).1.2.2.2.1; intro e_; exact h_ e_.symm) _; (with_reducible repeat (first | refine blk_drewN ?_ _ | refine blk_drew ?_ | refine blk_alloc ?_ _)); exact BK212.out⟩
                                  have n4_ : Aside0 ((w44.setCell ⟨go37, (x26_1 : Int).toNat, none⟩ (.slice (some ⟨gr, 0, none⟩) y224.length cr : Value)).heap[gb220]? = some (.cells #[.slice (some ⟨go32, 0, none⟩) x221000_1.length co32, .slice (some ⟨go37, 0, none⟩) x221001_1.length co37] 25 (0, 0))) := ⟨by (with_reducible repeat (first | refine blk_drewN ?_ _ | refine blk_drew ?_ | refine blk_alloc ?_ _)); refine blk_far ?_ (by have h_ := ((Kd.S_R HXR.out).1 go37 rfl).1.2.2.2.2; intro e_; exact h_ e_.symm) _; (with_reducible repeat (first | refine blk_drewN ?_ _ | refine blk_drew ?_ | refine blk_alloc ?_ _)); exact BK220.out⟩
                                  have n0b_ : Aside0 (Kd.R (Kd.int .i64) 3 (w44.setCell ⟨go37, (x26_1 : Int).toNat, none⟩ (.slice (some ⟨gr, 0, none⟩) y224.length cr : Value)) w.heap.size (fun k_ => (w.heap.size ≤ k_) ∧ k_ ≠ gr) (.slice (some ⟨go32, 0, none⟩) x221000_1.length co32) y222) := ⟨by (with_reducible repeat (first | apply Kd.R_alloc | apply Kd.R_drewN | apply Kd.R_drew)); exact Kd.R_mono (Kd.R_far (p := ⟨go37, (x26_1 : Int).toNat, none⟩) (Kd.R_types HO_221000.out GG37.out (by decide)) (fun _ hk => hk.2) (.slice (some ⟨gr, 0, none⟩) y224.length cr : Value)) (fun _ hk => ⟨hk.1.1, fun e_ => hk.1.2 (by rw [e_]; rfl)⟩)⟩
                                  have HE47 : Aside0 (∀ k : Nat, (w44.setCell ⟨go37, (x26_1 : Int).toNat, none⟩ (.slice (some ⟨gr, 0, none⟩) y224.length cr : Value)).heap[k]? = hpS w44 ⟨go37, (x26_1 : Int).toNat, none⟩ (.slice (some ⟨gr, 0, none⟩) y224.length cr : Value) k) := ⟨fun _ => rfl⟩
                                  have HV47 : Aside0 ((w44.setCell ⟨go37, (x26_1 : Int).toNat, none⟩ (.slice (some ⟨gr, 0, none⟩) y224.length cr : Value)).cell? ⟨go37, (x26_1 : Int).toNat, none⟩ = some (.slice (some ⟨gr, 0, none⟩) y224.length cr : Value)) := ⟨exch_same hx37_0⟩
                                  have n5_ : Aside0 (Below w.heap.size w (w44.setCell ⟨go37, (x26_1 : Int).toNat, none⟩ (.slice (some ⟨gr, 0, none⟩) y224.length cr : Value))) := ⟨by repeat (first | (with_reducible first | exact HB.out | apply below_alloc | apply pw_below_drewN | apply below_drew1 | refine below_set ?_ GB37.out | refine below_set ?_ GE211.out | refine below_set ?_ GE212.out | refine below_set ?_ GE220.out) | exact HB.out)⟩
                                  (try clear HO_221000)
                                  (try clear HO_221001)
                                  (try clear BK211)
                                  (try clear BK212)
                                  (try clear BK220)
                                  (try clear HB)
                                  generalize (w44.setCell ⟨go37, (x26_1 : Int).toNat, none⟩ (.slice (some ⟨gr, 0, none⟩) y224.length cr : Value)) = w47 at n0_ n0b_ n1_ n2_ n3_ n4_ n5_ HE47 HV47 ⊢
                                  have HO_221000 := n0_
                                  have HO_221001 := n1_
                                  have BK211 := n2_
                                  have BK212 := n3_
                                  have BK220 := n4_
                                  have HB := n5_
                                  clear n0_ n1_ n2_ n3_ n4_ n5_
                                  have HOB := Aside0.mk (Kd.R_drew n0b_.out)
                                  have HE48 : Aside0 (∀ k : Nat, w47.drew.heap[k]? = hpS w44 ⟨go37, (x26_1 : Int).toNat, none⟩ (.slice (some ⟨gr, 0, none⟩) y224.length cr : Value) k) := ⟨fun k => HE47.out k⟩
                                  have n0_ := Aside0.mk (Kd.R_drew HO_221000.out)
                                  have n1_ := Aside0.mk (Kd.S_drew HO_221001.out)
                                  have n2_ := Aside0.mk (blk_drew BK211.out)
                                  have n3_ := Aside0.mk (blk_drew BK212.out)
                                  have n4_ := Aside0.mk (blk_drew BK220.out)
                                  have n5_ := Aside0.mk (below_drew1 HB.out)
                                  clear HO_221000
                                  clear HO_221001
                                  clear BK211
                                  clear BK212
                                  clear BK220
                                  clear HB n0b_
                                  have HO_221000 := n0_
                                  have HO_221001 := n1_
                                  have BK211 := n2_
                                  have BK212 := n3_
                                  have BK220 := n4_
                                  have HB := n5_
                                  clear n0_ n1_ n2_ n3_ n4_ n5_
                                  have p228 : 0 ≤ (x26_1 : Int) := of_decide_eq_true (by first | (with_reducible assumption) | assumption)
                                  have q228 : x26_1 < (y227.length : Int) := (by have h_ : (x26_1 : Int) < ((x221001_1.length : Int) : Int) := of_decide_eq_true (by first | (with_reducible assumption) | assumption); first | (have e_ := (Kd.S_reads' HO_221001.out).1; omega) | simpa only [Ny227.out, List.length_set] using h_)
                                  have ql228 : ((x26_1 : Int) < ((x221001_1.length : Int) : Int)) = True := eq_true (of_decide_eq_true (by first | (with_reducible assumption) | assumption))
                                  obtain ⟨ad228, A228_0, c228_0, e228, hx228_0, hl228_0, hi228_0⟩ := at_L1 (Kd.S_reads' HO_221001.out).2.2 x26_1 p228 q228
                                  obtain rfl : (⟨go37, 0, none⟩ : Addr) = ad228 := (by injection e228)
                                  (first | simp only [add_plain] at hx228_0 | simp only [add_at] at hx228_0 | simp only [Addr.add, Nat.zero_add] at hx228_0 | skip)
                                  have HR228_0 := Aside0.mk hi228_0
                                  have HC228_0 := Aside0.mk hl228_0
                                  have EA228 : A228_0 = some ⟨gr, 0, none⟩ ∧ (rd_L1 y227 x26_1).length = y224.length := by
                                    have h_ := Option.some.inj (hx228_0.symm.trans HV47.out)
                                    injection h_ with h1_ h2_ h3_
                                    exact ⟨h1_, h2_⟩
                                  obtain ⟨ea228, el228⟩ := EA228
                                  subst ea228
                                  have EL228 := Aside0.mk (el228.trans LR.out)
                                  clear el228
                                  clear hi228_0 hl228_0
                                  replace p228 := eq_true p228
                                  replace q228 := eq_true q228
                                  have p229 : 0 ≤ (x26_1 : Int) := of_decide_eq_true (by first | (with_reducible assumption) | assumption)
                                  have q229 : x26_1 < (l0_1.length : Int) := of_decide_eq_true (by first | (with_reducible assumption) | assumption)
                                  obtain ⟨ad229, A229_0, c229_0, e229, hx229_0, hl229_0, hi229_0⟩ := at_L1 HR0_1.out x26_1 p229 q229
                                  have hw229_0 := hx229_0
                                  obtain rfl : ad223 = ad229 := (by injection e229)
                                  replace hx229_0 := (HB.out.cell (World.block_lt_of_cell? w _ hx229_0)).trans hx229_0
                                  have HR229_0 := Aside0.mk hi229_0
                                  have HC229_0 := Aside0.mk hl229_0
                                  clear hi229_0 hl229_0
                                  replace p229 := eq_true p229
                                  replace q229 := eq_true q229
                                  refine start_ (n := 11) (S := fun w' => w'.cell? ⟨gb220, 0, none⟩ = some (.slice (some ⟨go32, 0, none⟩) x221000_1.length co32) ∧ w'.cell? ⟨gb220, 1, none⟩ = some (.slice (some ⟨go37, 0, none⟩) x221001_1.length co37) ∧ w'.cell? ⟨gb211, 0, none⟩ = some (.slice (some ad221) l0_0.length c0_0) ∧ w'.cell? ⟨gb211, 1, none⟩ = some (.slice (some ad223) l0_1.length c0_1) ∧ w'.cell? ⟨go37, (x26_1).toNat, none⟩ = some (.slice (some ⟨gr, 0, none⟩) (rd_L1 y227 x26_1).length c228_0) ∧ w'.cell? (ad223.add (x26_1).toNat) = some (.slice A229_0 (rd_L1 l0_1 x26_1).length c229_0)) (ds := [10]) #[false, false, false, false, false, false, false, false, false, false, false] (by kernel_rfl) rfl rfl ⟨(blk_cell BK220.out 0).trans rfl, (blk_cell BK220.out 1).trans rfl, (blk_cell BK211.out 0).trans rfl, (blk_cell BK211.out 1).trans rfl, hx228_0, ((HB.out.cell (World.block_lt_of_cell? w _ hw229_0)).trans hw229_0)⟩ (fun hHeld => ?_); refine with_tabW lure_Exchange.tab10 lure_Exchange.bits10 (fun HT_ HW_ => ?_)
                                  generalize w47.drew = w48 at HOB HE48 HO_221000 HO_221001 BK211 BK212 BK220 HB HQ46 HR228_0 HR229_0 hx228_0 hx229_0 hHeld ⊢
                                  refine pure_ (i := 0) (N := some 48) (v := ?_) (a' := ?_) #[true, false, false, false, false, false, false, false, false, false, false] rfl rfl (any_of HT_.out (by kernel_rfl)) (fun _ _ _ h => h) (Or.inl ⟨by rfl, ?_⟩) ?_ ?_
                                  rotate_left
                                  · intro w'
                                    go_simp
                                    with_reducible rfl
                                  rotate_left
                                  · simp only [Act.put, List.setIfInBounds_toArray, List.set_cons_zero, List.set_cons_succ, i64_w, i32_w]
                                    rfl
                                  refine pure_ (i := 2) (N := some 50) (v := ?_) (a' := ?_) #[true, false, true, false, false, false, false, false, false, false, false] rfl rfl (any_of HT_.out (by kernel_rfl)) (fun _ _ _ h => h) (Or.inl ⟨by rfl, ?_⟩) ?_ ?_
                                  rotate_left
                                  · intro w'
                                    go_simp
                                    with_reducible rfl
                                  rotate_left
                                  · simp only [Act.put, List.setIfInBounds_toArray, List.set_cons_zero, List.set_cons_succ, i64_w, i32_w]
                                    rfl
                                  refine pure_ (i := 5) (N := some 53) (v := ?_) (a' := ?_) #[true, false, true, false, false, true, false, false, false, false, false] rfl rfl (any_of HT_.out (by kernel_rfl)) (fun _ _ _ h => h) (Or.inl ⟨by rfl, ?_⟩) ?_ ?_
                                  rotate_left
                                  · intro w'
                                    go_simp
                                    with_reducible rfl
                                  rotate_left
                                  · simp only [Act.put, List.setIfInBounds_toArray, List.set_cons_zero, List.set_cons_succ, i64_w, i32_w]
                                    rfl
                                  refine pure_ (i := 7) (N := some 55) (v := ?_) (a' := ?_) #[true, false, true, false, false, true, false, true, false, false, false] rfl rfl (any_of HT_.out (by kernel_rfl)) (fun _ _ _ h => h) (Or.inl ⟨by rfl, ?_⟩) ?_ ?_
                                  rotate_left
                                  · intro w'
                                    go_simp
                                    with_reducible rfl
                                  rotate_left
                                  · simp only [Act.put, List.setIfInBounds_toArray, List.set_cons_zero, List.set_cons_succ, i64_w, i32_w]
                                    rfl
                                  refine take_ (i := 1) (N := some 49) (v := ?_) (a' := ?_) #[true, true, true, false, false, true, false, true, false, false, false] rfl rfl (take_ofW HT_.out HW_.out (by kernel_rfl)) (fun _ _ _ h => h) (Or.inl ⟨by rfl, ?_⟩) hHeld ?_ ?_
                                  rotate_left
                                  · rintro w' ⟨s0, s1, s2, s3, s4, s5⟩
                                    go_simp
                                    with_reducible rfl
                                  rotate_left
                                  · simp only [Act.put, List.setIfInBounds_toArray, List.set_cons_zero, List.set_cons_succ, i64_w, i32_w]
                                    rfl
                                  refine pure_ (i := 3) (N := some 51) (v := ?_) (a' := ?_) #[true, true, true, true, false, true, false, true, false, false, false] rfl rfl (any_of HT_.out (by kernel_rfl)) (fun _ _ _ h => h) (Or.inl ⟨by rfl, ?_⟩) ?_ ?_
                                  rotate_left
                                  · intro w'
                                    go_simp
                                    with_reducible rfl
                                  rotate_left
                                  · simp only [Act.put, List.setIfInBounds_toArray, List.set_cons_zero, List.set_cons_succ, i64_w, i32_w]
                                    rfl
                                  refine take_ (i := 4) (N := some 52) (v := ?_) (a' := ?_) #[true, true, true, true, true, true, false, true, false, false, false] rfl rfl (take_ofW HT_.out HW_.out (by kernel_rfl)) (fun _ _ _ h => h) (Or.inl ⟨by rfl, ?_⟩) hHeld ?_ ?_
                                  rotate_left
                                  · rintro w' ⟨s0, s1, s2, s3, s4, s5⟩
                                    go_simp
                                    with_reducible rfl
                                  rotate_left
                                  · simp only [Act.put, List.setIfInBounds_toArray, List.set_cons_zero, List.set_cons_succ, i64_w, i32_w]
                                    rfl
                                  refine take_ (i := 6) (N := some 54) (v := ?_) (a' := ?_) #[true, true, true, true, true, true, true, true, false, false, false] rfl rfl (take_ofW HT_.out HW_.out (by kernel_rfl)) (fun _ _ _ h => h) (Or.inl ⟨by rfl, ?_⟩) hHeld ?_ ?_
                                  rotate_left
                                  · rintro w' ⟨s0, s1, s2, s3, s4, s5⟩
                                    go_simp
                                    with_reducible rfl
                                  rotate_left
                                  · simp only [Act.put, List.setIfInBounds_toArray, List.set_cons_zero, List.set_cons_succ, i64_w, i32_w]
                                    rfl
                                  refine pure_ (i := 8) (N := some 56) (v := ?_) (a' := ?_) #[true, true, true, true, true, true, true, true, true, false, false] rfl rfl (any_of HT_.out (by kernel_rfl)) (fun _ _ _ h => h) (Or.inl ⟨by rfl, ?_⟩) ?_ ?_
                                  rotate_left
                                  · intro w'
                                    go_simp
                                    with_reducible rfl
                                  rotate_left
                                  · simp only [Act.put, List.setIfInBounds_toArray, List.set_cons_zero, List.set_cons_succ, i64_w, i32_w]
                                    rfl
                                  refine take_ (i := 9) (N := some 57) (v := ?_) (a' := ?_) #[true, true, true, true, true, true, true, true, true, true, false] rfl rfl (take_ofW HT_.out HW_.out (by kernel_rfl)) (fun _ _ _ h => h) (Or.inl ⟨by rfl, ?_⟩) hHeld ?_ ?_
                                  rotate_left
                                  · rintro w' ⟨s0, s1, s2, s3, s4, s5⟩
                                    go_simp
                                    with_reducible rfl
                                  rotate_left
                                  · simp only [Act.put, List.setIfInBounds_toArray, List.set_cons_zero, List.set_cons_succ, i64_w, i32_w]
                                    rfl
                                  refine last_ (i := 10) (N := some 58) #[true, true, true, true, true, true, true, true, true, true, true] rfl rfl (one_of HT_.out (by kernel_rfl)) (by decide) (fun K hK => ?_)
                                  have GR48 := Aside0.mk (exch_row HE48.out KR.out HOKr.out.2.symm)
                                  obtain ⟨⟨cur, hcur, hcl⟩⟩ := GR48
                                  have HCUR := Aside0.mk hcur
                                  have HCL := Aside0.mk hcl
                                  clear hcl hcur
                                  obtain ⟨ad229, rfl⟩ := exch_some HR229_0.out HC37.out
                                  refine exch_copy rfl (.tmp 52) (.tmp 57) 22 22 rfl 3 Try.underlying22 rfl (rd_L1 y227 x26_1).length _ (rd_L1 l0_1 x26_1).length _ gr _ rfl rfl cur 3 HCUR.out (nums .i64 (rd_L1 l0_1 x26_1)) (by rw [nums_length, EL228.out]; exact (Nat.min_self _).symm) (exch_src HR229_0.out HB.out) (by rw [nums_length]; have := LR.out; have := HCL.out.1; omega) exch_one ?_
                                  refine hK.out _ _ ?_
                                  clear hK K
                                  refine done_ (done_of HT_.out (by kernel_rfl)) ?_
                                  have n0_ := Aside0.mk (Kd.R_mono (ok' := (fun k_ => (w.heap.size ≤ k_))) (Kd.R_step (w1 := w48.setRow gr (cur.toList.take 0 ++ (nums .i64 (rd_L1 l0_1 x26_1) ++ cur.toList.drop (0 + (nums .i64 (rd_L1 l0_1 x26_1)).length))).toArray) HOB.out (fun k_ hk _ => setRow_other w48 gr k_ _ hk.2)) (fun _ hk => hk.1))
                                  have n1_ := Aside0.mk (exch_copied HXR.out (x26_1 : Int) (by first | (with_reducible assumption) | exact of_decide_eq_true (by assumption)) (by first | (with_reducible assumption) | exact of_decide_eq_true (by assumption)) rfl LR.out CR.out (HR229_0.out.1 ▸ HR229_0.out.2.1) HOKr.out.1 HOKr.out.1.1 HCL.out.2.2 HCL.out.2.1 HOKr.out.2.symm HE48.out HCUR.out)
                                  rw [← Ny229.out] at n1_
                                  have n2_ := Aside0.mk ((setRow_other w48 gr gb211 (cur.toList.take 0 ++ (nums .i64 (rd_L1 l0_1 x26_1) ++ cur.toList.drop (0 + (nums .i64 (rd_L1 l0_1 x26_1)).length))).toArray (Ne.symm HOKr.out.1.2.2.1)).trans BK211.out)
                                  have n3_ := Aside0.mk ((setRow_other w48 gr gb212 (cur.toList.take 0 ++ (nums .i64 (rd_L1 l0_1 x26_1) ++ cur.toList.drop (0 + (nums .i64 (rd_L1 l0_1 x26_1)).length))).toArray (Ne.symm HOKr.out.1.2.2.2.1)).trans BK212.out)
                                  have n4_ := Aside0.mk ((setRow_other w48 gr gb220 (cur.toList.take 0 ++ (nums .i64 (rd_L1 l0_1 x26_1) ++ cur.toList.drop (0 + (nums .i64 (rd_L1 l0_1 x26_1)).length))).toArray (Ne.symm HOKr.out.1.2.2.2.2)).trans BK220.out)
                                  have n5_ := Aside0.mk (below_setRow HB.out HOKr.out.1.1 (cur.toList.take 0 ++ (nums .i64 (rd_L1 l0_1 x26_1) ++ cur.toList.drop (0 + (nums .i64 (rd_L1 l0_1 x26_1)).length))).toArray)
                                  clear HO_221000 HO_221001 BK211 BK212 BK220 HB HOB HXR HE48 HE47
                                  generalize w48.setRow gr (cur.toList.take 0 ++ (nums .i64 (rd_L1 l0_1 x26_1) ++ cur.toList.drop (0 + (nums .i64 (rd_L1 l0_1 x26_1)).length))).toArray = w49 at n0_ n1_ n2_ n3_ n4_ n5_ ⊢
                                  have HO_221000 := n0_
                                  have HO_221001 := n1_
                                  have BK211 := n2_
                                  have BK212 := n3_
                                  have BK220 := n4_
                                  have HB := n5_
                                  clear n0_ n1_ n2_ n3_ n4_ n5_
                                  clear HQ46 HR228_0 HR229_0 hx228_0 hx229_0 hHeld
                                  try go_wp2
                                  go_roundg k1
                                  case measure => have := HK1.out; omega
                                  case rel => exact ⟨(wrap64 (x26_1 + 1)), (y222), (y229), (.slice (some ⟨go32, 0, none⟩) x221000_1.length co32), (.slice (some ⟨go37, 0, none⟩) x221001_1.length co37), (by first | rfl | (simp; done) | (simp [*]; done)), H', ⟨by have := HK1.out; omega⟩, ⟨by (with_reducible repeat (first | apply Kd.R_alloc | apply Kd.R_drewN | apply Kd.R_drew)); exact HO_221000.out⟩, ⟨by (with_reducible repeat (first | apply Kd.S_alloc | apply Kd.S_drewN | apply Kd.S_drew)); exact HO_221001.out⟩, ⟨by (with_reducible repeat (first | refine blk_drewN ?_ _ | refine blk_drew ?_ | refine blk_alloc ?_ _)); exact BK211.out⟩, ⟨by (with_reducible repeat (first | refine blk_drewN ?_ _ | refine blk_drew ?_ | refine blk_alloc ?_ _)); exact BK212.out⟩, ⟨by (with_reducible repeat (first | refine blk_drewN ?_ _ | refine blk_drew ?_ | refine blk_alloc ?_ _)); exact BK220.out⟩, ⟨by repeat (first | (with_reducible first | exact HB.out | apply below_alloc | apply pw_below_drewN | apply below_drew1 | refine below_set ?_ GE211.out | refine below_set ?_ GE212.out | refine below_set ?_ GE220.out) | exact HB.out)⟩⟩
                                · rw [if_neg c37] at H
                                  exact absurd H (by simp)
                              · rw [if_neg c36] at H
                                exact absurd H (by simp)
                            · rw [if_neg c35] at H
                              exact absurd H (by simp)
                          · rw [if_neg c34] at H
                            exact absurd H (by simp)
                        · rw [if_neg c33] at H
                          exact absurd H (by simp)
                      · rw [if_neg c31] at H
                        exact absurd H (by simp)
                    · rw [if_neg c30] at H
                      exact absurd H (by simp)
                  · rw [if_neg c29] at H
                    exact absurd H (by simp)
                · rw [if_neg c28] at H
                  have c28b0 : decide (x26_1 < (l0_0.length : Int)) = false := decide_eq_false c28
                  clear c28
                  simp only [Option.some.injEq, Prod.mk.injEq] at H
                  obtain ⟨rfl, rfl, rfl⟩ := H
                  have hnb49 := NB220_211.out
                  have hnc49 := NB211_220.out
                  have hnb50 := NB220_212.out
                  have hnc50 := NB212_220.out
                  have hcz51_0 : wr.cell? ⟨gb220, 0, none⟩ = some (u221000) := (blk_cell BK220.out 0).trans rfl
                  have hcz51_1 : wr.cell? ⟨gb220, 1, none⟩ = some (u221001) := (blk_cell BK220.out 1).trans rfl
                  have hfz51_0 := blk_frozen BK220.out 0
                  have hfz51_1 := blk_frozen BK220.out 1
                  obtain ⟨Ao52, co52, eo52⟩ := Kd.R_slice HO_221000.out
                  subst eo52
                  have hnb53 := NB212_211.out
                  have hnc53 := NB211_212.out
                  have hcz54_0 : wr.cell? ⟨gb212, 0, none⟩ = some (.slice none 0 0) := (blk_cell BK212.out 0).trans rfl
                  have hcz54_1 : wr.cell? ⟨gb212, 1, none⟩ = some (.slice none 0 0) := (blk_cell BK212.out 1).trans rfl
                  have hfz54_0 := blk_frozen BK212.out 0
                  have hfz54_1 := blk_frozen BK212.out 1
                  obtain ⟨Ao55, co55, eo55⟩ := Kd.S_slice HO_221001.out
                  subst eo55
                  go_wp2
                  refine bodyPost_ret (results_ct rfl _ _ gb212 25 #[.slice Ao52 x221000_1.length co52, .slice Ao55 x221001_1.length co55] (0, 0) _ rfl (by (with_reducible repeat (first | refine blk_drewN ?_ _ | refine blk_drew ?_ | refine blk_alloc ?_ _)); refine blk_put (cs := #[.slice Ao52 x221000_1.length co52, .slice none 0 0]) ?_ 1 _ rfl; (with_reducible repeat (first | refine blk_drewN ?_ _ | refine blk_drew ?_ | refine blk_alloc ?_ _)); refine blk_put (cs := #[.slice none 0 0, .slice none 0 0]) ?_ 0 _ rfl; (with_reducible repeat (first | refine blk_drewN ?_ _ | refine blk_drew ?_ | refine blk_alloc ?_ _)); exact BK212.out) Try.underlying25 rfl (by kernel_rfl)) rfl ?_
                  exact ⟨_, _, by first | rfl | (simp [errW_none, errW_some] <;> rfl) | (simp [*, errW_none, errW_some] <;> rfl), by (with_reducible repeat (first | apply Kd.R_alloc | apply Kd.R_drewN | apply Kd.R_drew)); exact Kd.R_mono (Kd.R_far (p := ⟨gb212, 1, none⟩) (Kd.R_far (p := ⟨gb212, 0, none⟩) (Kd.R_types HO_221000.out BK212.out (by decide)) (fun _ hk => hk.2) (.slice Ao52 x221000_1.length co52)) (fun _ hk => hk.2) (.slice Ao55 x221001_1.length co55)) (fun _ hk => hk.1), by (with_reducible repeat (first | apply Kd.S_alloc | apply Kd.S_drewN | apply Kd.S_drew)); exact Kd.S_mono (Kd.S_far (p := ⟨gb212, 1, none⟩) (Kd.S_far (p := ⟨gb212, 0, none⟩) (Kd.S_mono HO_221001.out (fun k_ hk => (⟨hk, hk.2.2.2.1⟩ : _ ∧ k_ ≠ gb212))) (fun _ hk => hk.2) (.slice Ao52 x221000_1.length co52)) (fun _ hk => hk.2) (.slice Ao55 x221001_1.length co55)) (fun _ hk => ⟨hk.1.1, hk.1.2.1⟩), by repeat (first | (with_reducible first | exact HB.out | apply below_alloc | apply pw_below_drewN | apply below_drew1 | refine below_set ?_ GE211.out | refine below_set ?_ GE212.out | refine below_set ?_ GE220.out) | exact HB.out)⟩
          · rw [if_neg c7] at H
            exact absurd H (by simp)
        · rw [if_neg c6] at H
          exact absurd H (by simp)
      · rw [if_neg c5] at H
        exact absurd H (by simp)
    · rw [if_neg c4] at H
      exact absurd H (by simp)
  · rw [if_neg c3] at H
    have c3b0 : (t213 == 0) = false := beq_eq_false_iff_ne.mpr c3
    have c3b1 : (t213 != 0) = true := bne_iff_ne.mpr c3
    simp only [Option.some.injEq, Prod.mk.injEq] at H
    obtain ⟨rfl, rfl, rfl⟩ := H
    go_enter Try.func44, Try.ntmps44
    go_wp2_with (first | ((with_reducible refine gate_dst (N := 1) rfl ?_); refine box_event ?hg (N := 1) ?hd (cs := #[.slice A0_0 l0_0.length c0_0, .slice A0_1 l0_1.length c0_1]) (t := 25) ?hr ?_; (case hd => rfl); (case hg => rfl); (case hr => first | (go_simp; done) | (go_simp; rfl)); intro gb211 hg w56 hbox hb; have n0_ := Aside0.mk (below_step (by repeat (first | (with_reducible first | exact HB.out | apply below_alloc | apply pw_below_drewN | apply below_drew1) | exact HB.out)) hb); have n1_ := Aside0.mk (hbox); have n2_ := Aside0.mk ((by rw [hg]; exact (below_size (by repeat (first | (with_reducible first | exact HB.out | apply below_alloc | apply pw_below_drewN | apply below_drew1) | exact HB.out))) : w.heap.size ≤ gb211)); have n3_ := Aside0.mk ((by rw [hg]; exact (below_size (by repeat (first | (with_reducible first | exact HB.out | apply below_alloc | apply pw_below_drewN | apply below_drew1) | exact HB.out))) : w.heap.size ≤ gb211)); clear HB; have HB := n0_; have BK211 := n1_; have GW211 := n2_; have GE211 := n3_; clear n0_ n1_ n2_ n3_; clear hb hbox hg) | ((with_reducible refine gate_dst (N := 2) rfl ?_); refine box_event ?hg (N := 2) ?hd (cs := #[.slice none 0 0, .slice none 0 0]) (t := 25) ?hr ?_; (case hd => rfl); (case hg => rfl); (case hr => first | (go_simp; done) | (go_simp; rfl)); intro gb212 hg w57 hbox hb; have n0_ := Aside0.mk (blk_below (g := gb211) (o := .cells #[.slice A0_0 l0_0.length c0_0, .slice A0_1 l0_1.length c0_1] 25 (0, 0)) (by (with_reducible repeat (first | refine blk_drewN ?_ _ | refine blk_drew ?_ | refine blk_alloc ?_ _)); exact BK211.out) hb); have n1_ := Aside0.mk (below_step (by repeat (first | (with_reducible first | exact HB.out | apply below_alloc | apply pw_below_drewN | apply below_drew1 | refine below_set ?_ GE211.out) | exact HB.out)) hb); have n2_ := Aside0.mk (hbox); have n3_ := Aside0.mk ((by rw [hg]; exact (below_size (by repeat (first | (with_reducible first | exact HB.out | apply below_alloc | apply pw_below_drewN | apply below_drew1 | refine below_set ?_ GE211.out) | exact HB.out))) : w.heap.size ≤ gb212)); have n4_ := Aside0.mk ((by rw [hg]; exact (below_size (by repeat (first | (with_reducible first | exact HB.out | apply below_alloc | apply pw_below_drewN | apply below_drew1 | refine below_set ?_ GE211.out) | exact HB.out))) : w.heap.size ≤ gb212)); have n5_ := Aside0.mk ((by rw [hg]; exact Nat.ne_of_lt (blk_lt (g := gb211) (o := .cells #[.slice A0_0 l0_0.length c0_0, .slice A0_1 l0_1.length c0_1] 25 (0, 0)) (by (with_reducible repeat (first | refine blk_drewN ?_ _ | refine blk_drew ?_ | refine blk_alloc ?_ _)); exact BK211.out)) : gb211 ≠ gb212)); have n6_ := Aside0.mk ((by rw [hg]; exact Nat.ne_of_gt (blk_lt (g := gb211) (o := .cells #[.slice A0_0 l0_0.length c0_0, .slice A0_1 l0_1.length c0_1] 25 (0, 0)) (by (with_reducible repeat (first | refine blk_drewN ?_ _ | refine blk_drew ?_ | refine blk_alloc ?_ _)); exact BK211.out)) : gb212 ≠ gb211)); clear BK211; clear HB; have BK211 := n0_; have HB := n1_; have BK212 := n2_; have GW212 := n3_; have GE212 := n4_; have NB211_212 := n5_; have NB212_211 := n6_; clear n0_ n1_ n2_ n3_ n4_ n5_ n6_; clear hb hbox hg; have hnb58 := NB211_212.out; have hnc58 := NB212_211.out; have hcz59_0 : w57.cell? ⟨gb211, 0, none⟩ = some (.slice A0_0 l0_0.length c0_0) := (blk_cell BK211.out 0).trans rfl; have hcz59_1 : w57.cell? ⟨gb211, 1, none⟩ = some (.slice A0_1 l0_1.length c0_1) := (blk_cell BK211.out 1).trans rfl; have hfz59_0 := blk_frozen BK211.out 0; have hfz59_1 := blk_frozen BK211.out 1) | ((with_reducible refine gate_callee (f := 28) rfl ?_); refine goesL_ (some 9) rfl rfl Try.func28 (by kernel_rfl) rfl #[.agg #[.slice A0_0 l0_0.length c0_0, .slice A0_1 l0_1.length c0_1]] rfl (by (try simp only [List.map_toArray, List.map_cons, List.map_nil]); first | done | rfl | (simp only [List.length_drop, List.length_take]; rfl)) ?_; (with_reducible refine (lure_Validate.calls k _ _ l0_0 _ _ l0_1 t213 _ ?side1 ?side2 ?side3 ?side4 A2.out).mono ?_); (case side1 => repeat (first | exact (Kd.C_below HR0_0.out HB.out) | (with_reducible refine Kd.C_alloc ?_ _) | (with_reducible refine Kd.C_drewN ?_ _) | (with_reducible refine Kd.C_drew ?_))); (case side2 => exact HC0_0.out); (case side3 => repeat (first | exact (Kd.C_below HR0_1.out HB.out) | (with_reducible refine Kd.C_alloc ?_ _) | (with_reducible refine Kd.C_drewN ?_ _) | (with_reducible refine Kd.C_drew ?_))); (case side4 => exact HC0_1.out); rintro e w60 ⟨rfl, hb⟩; refine ⟨_, rfl, ?_⟩; have n0_ := Aside0.mk (blk_below (g := gb211) (o := .cells #[.slice A0_0 l0_0.length c0_0, .slice A0_1 l0_1.length c0_1] 25 (0, 0)) (by (with_reducible repeat (first | refine blk_drewN ?_ _ | refine blk_drew ?_ | refine blk_alloc ?_ _)); exact BK211.out) hb); have n1_ := Aside0.mk (blk_below (g := gb212) (o := .cells #[.slice none 0 0, .slice none 0 0] 25 (0, 0)) (by (with_reducible repeat (first | refine blk_drewN ?_ _ | refine blk_drew ?_ | refine blk_alloc ?_ _)); exact BK212.out) hb); have n2_ := Aside0.mk (below_step (by repeat (first | (with_reducible first | exact HB.out | apply below_alloc | apply pw_below_drewN | apply below_drew1 | refine below_set ?_ GE211.out | refine below_set ?_ GE212.out) | exact HB.out)) hb); clear BK211; clear BK212; clear HB; have BK211 := n0_; have BK212 := n1_; have HB := n2_; clear n0_ n1_ n2_; (try clear hb); (try clear hb2); (try clear hk); (try clear hi); have hcz61_0 : w60.cell? ⟨gb212, 0, none⟩ = some (.slice none 0 0) := (blk_cell BK212.out 0).trans rfl; have hcz61_1 : w60.cell? ⟨gb212, 1, none⟩ = some (.slice none 0 0) := (blk_cell BK212.out 1).trans rfl; have hfz61_0 := blk_frozen BK212.out 0; have hfz61_1 := blk_frozen BK212.out 1))
    refine bodyPost_ret (results_ct rfl _ _ gb212 25 #[.slice none 0 0, .slice none 0 0] (0, 0) _ rfl (by (with_reducible repeat (first | refine blk_drewN ?_ _ | refine blk_drew ?_ | refine blk_alloc ?_ _)); refine blk_put (cs := #[.slice none 0 0, .slice none 0 0]) ?_ 1 _ rfl; (with_reducible repeat (first | refine blk_drewN ?_ _ | refine blk_drew ?_ | refine blk_alloc ?_ _)); refine blk_put (cs := #[.slice none 0 0, .slice none 0 0]) ?_ 0 _ rfl; (with_reducible repeat (first | refine blk_drewN ?_ _ | refine blk_drew ?_ | refine blk_alloc ?_ _)); exact BK212.out) Try.underlying25 rfl (by kernel_rfl)) rfl ?_
    exact ⟨_, _, by first | rfl | (simp [errW_none, errW_some] <;> rfl) | (simp [*, errW_none, errW_some] <;> rfl), by first | exact Kd.R_nil _ _ _ _ _ | exact Kd.S_nil _ _ _ _ _ | exact Kd.V_nil _ _ _ _ _ | exact Kd.Q_nil _ _ _ _ _ | exact Kd.S_nil _ _ _ _ _, by first | exact Kd.S_nil _ _ _ _ _ | exact Kd.S_nil _ _ _ _ _ | exact Kd.V_nil _ _ _ _ _ | exact Kd.Q_nil _ _ _ _ _ | exact Kd.R_nil _ _ _ _ _, by repeat (first | (with_reducible first | exact HB.out | apply below_alloc | apply pw_below_drewN | apply below_drew1 | refine below_set ?_ GE211.out | refine below_set ?_ GE212.out) | exact HB.out)⟩
theorem lure_Exchange.calls (k : Nat) (A0_0 : Option Addr) (c0_0 : Nat) (l0_0 : List Int) (A0_1 : Option Addr) (c0_1 : Nat) (l0_1 : List (List Int)) (r1 : List Int) (r2 : List (List Int)) (r3 : Int) (w : World) (hr0_0 : Kd.C (Kd.int .i64) w A0_0 l0_0.length l0_0) (hc0_0 : l0_0.length ≤ c0_0) (hr0_1 : Kd.C (Kd.slice 3 (Kd.int .i64)) w A0_1 l0_1.length l0_1) (hc0_1 : l0_1.length ≤ c0_1) (h : lure_Exchange.f k l0_0 l0_1 = some (r1, r2, r3)) :
    Calls Try.prog 44 #[.agg #[.slice A0_0 l0_0.length c0_0, .slice A0_1 l0_1.length c0_1]] w fun e w' => ∃ v0_ v1_ : Value, e = .returned (.tuple #[.agg #[v0_, v1_], .int .i64 r3]) ∧ Kd.R (Kd.int .i64) 3 w' w.heap.size (fun _ => True) v0_ r1 ∧ Kd.S (Kd.slice 3 (Kd.int .i64)) 22 w' w.heap.size (fun k_ => some k_ ≠ (v0_ : Value).ownBlock) v1_ r2 ∧ Below w.heap.size w w' :=
  (lure_Exchange.calls0 k A0_0 c0_0 l0_0 A0_1 c0_1 l0_1 r1 r2 r3 w hr0_0 hc0_0 hr0_1 hc0_1 h).mono fun _ _ ⟨v0_, v1_, he, h0, h1, hb⟩ => ⟨v0_, v1_, he, Kd.R_mono h0 (fun _ _ => trivial), Kd.S_mono h1 (fun _ hk => hk.2), hb⟩

end Go.Proofs.Ytnmaonampilmoaa.LE

