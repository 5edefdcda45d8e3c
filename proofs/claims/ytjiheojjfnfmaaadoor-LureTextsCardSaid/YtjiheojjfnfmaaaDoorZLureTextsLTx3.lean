/- Of the text LTx3, what the row of LureTexts reaches. -/
import Derived.Test.YtjiheojjfnfmaaaDoorZLureTextsLTx0
import Derived.Test.YtjiheojjfnfmaaaDoorZLureTextsLTx2
import Derived.StillTailTactics
namespace Go.Proofs.YtjiheojjfnfmaaaDoor.LT
open Go.RowKit Go.Proofs.YtjiheojjfnfmaaaDoorW.PrintWords Go.Proofs.YtjiheojjfnfmaaaDoorW.PrintLast Go.Proofs.YtjiheojjfnfmaaaDoorW.PrintMore
attribute [local go_sem] max2_int min2_int max_two min_two max_three min_three max_four min_four   -- for this text's walks alone
set_option linter.unusedVariables false
set_option linter.unusedSimpArgs false

theorem infoI : (Tryd.prog.info? 3).map (fun i => (i.zero, i.size, i.bytes)) = some (some (.int .i64 0), 1, 8) := by kernel_rfl
theorem info1 : (Tryd.prog.info? 3).map (·.size) = some 1 := by kernel_rfl
/-- copy(v[m:], ys), v a row of one's own -/
theorem R_copy_off_step {P : Program} {ops : Array Oper} {o : Oper} {a : Act} {Q : Exit → Act → World → Prop} {K : Act → World → Prop} {α : Type} {enc : α → Value} {h1 : ∀ x, (enc x).oneCell' = true} (d : α) {w0 W : World} (base : Nat) (hw : Region.wanted o (yielded ops a.tmps) = true) (s x : Operand) (t t' e : TypeId)
    (ho : o.op = .call { callee := .builtin .copy, args := #[s, x], argTypes := #[t, t'] }) (ht : P.underlying t = some (.slice e)) (hinfo : (P.info? e).map (·.size) = some 1)
    (g m n cap dc : Nat) (xs ys : List α) (A : Option Addr) (sl c : Nat) (ok : Nat → Prop) (hs : a.eval s = .slice (some ⟨g, m, none⟩) (n - m) dc) (hx : a.eval x = .slice A sl c)
    (HO : (Kd.scalar enc h1).R e W base ok (.slice (some ⟨g, 0, none⟩) n cap) xs) (HR : (Kd.scalar enc h1).C W A sl ys) (HB : Below base w0 W) (hbase : base ≤ W.heap.size) (hn : xs.length = n) (hm : m ≤ n) (hp : 0 < min sl (n - m))
    (h : ∀ w1, (Kd.scalar enc h1).R e w1 base ok (.slice (some ⟨g, 0, none⟩) n cap) (xs.take m ++ ys.take (min sl (n - m)) ++ xs.drop (m + min sl (n - m))) → Below base w0 w1 → K (a.put o.dst (.int .i64 ((min sl (n - m) : Nat) : Int))) w1) :
    if Region.wanted o (yielded ops a.tmps) = true then Oper.wp P o a W K Q else K (a.put o.dst undef) W := by
  subst hn
  have hR := Kd.reads_of_C (enc := enc) (d := d) (h1 := h1) HR
  have hml : ys.length = sl := hR.1
  have hown := Kd.own_of_R HO
  obtain ⟨ad, hA, hc⟩ := hR.2.2 (by omega)
  rcases hown.2 with ⟨_, hx0⟩ | ⟨g', cap', cur, hv, hb, hh, hnc, hcm, hcs, htake⟩
  · omega
  injection hv with ha _ hcc
  injection ha with ha
  injection ha with hg
  subst hg; subst hcc
  obtain ⟨z, hK⟩ : ∃ z, z = min sl (xs.length - m) := ⟨_, rfl⟩
  rw [← hK] at h hp
  have hkl : (encs enc (ys.take z)).length = z := by rw [encs_length, List.length_take]; omega
  have hsrc : ∀ j u, (encs enc (ys.take z))[j]? = some u → W.cell? (ad.add j) = some u := by
    intro j u hu
    have hj : j < (ys.take z).length := by
      rcases Nat.lt_or_ge j (ys.take z).length with h | h
      · exact h
      · rw [List.getElem?_eq_none (by rw [encs_length]; exact h)] at hu
        cases hu
    have hjm : j < z := by rw [List.length_take] at hj; omega
    rw [encs_get (d := d) _ j hj] at hu
    rw [hc j (by omega), ← hu]
    simp [List.getD_eq_getElem?_getD, hjm]
  have hr := run_copy_cells (P := P) W t t' o.type e g m (xs.length - m) dc ad sl c (encs enc (ys.take z)) ht hinfo (by rw [hkl, hK]) hsrc
    (fun j hj => by rw [cell_of_row W g _ cur e (0, 0) hh]; simp; omega) (fun j _ => blk_frozen hh _) (by intro u hu; simp only [encs, List.mem_map] at hu; obtain ⟨q, _, rfl⟩ := hu; exact h1 q)
  obtain ⟨cur', h3, h4, h5⟩ := setCells_row (encs enc (ys.take z)) m W cur hh (by rw [hkl]; omega)
  obtain ⟨s1, s2, s3, s4⟩ := setCells_same g (encs enc (ys.take z)) m W
  have hgr : W.grownBy (W.setCells g m (encs enc (ys.take z))) (some g) := ⟨s1, s2, s3, by rw [s4]; exact Nat.le_refl _, fun k _ hk => setCells_far _ _ k (fun he => hk (by rw [he]))⟩
  subst hA
  refine value_ hw rfl (v := .int .i64 ((z : Nat) : Int)) (w1 := W.setCells g m (encs enc (ys.take z))) (by unfold execOp; simp only [ho, resolve, invoke, builtin, Sem.run_bind, Sem.run_pure, Result.andThen_ok, List.map_toArray, List.map_cons, List.map_nil, hs, hx, hr]; rw [hkl]; rfl) (h _ (Kd.R_of_own ?_ HO.1) (HB.grown hgr hbase (fun k hk => by injection hk with hk; subst hk; exact hb)))
  have hln : (xs.take m ++ ys.take z ++ xs.drop (m + z)).length = xs.length := by
    rw [List.length_append, List.length_append, List.length_take, List.length_take, List.length_drop]
    omega
  rw [hln]
  refine ⟨by rw [encs_length, hln, Nat.mul_one], .inr ⟨g, cap, cur', rfl, hb, h3, hnc, hcm, by rw [h4, hcs], ?_⟩⟩
  have htk : cur.toList.take xs.length = encs enc xs := by rw [← htake, Nat.mul_one]
  have e1 : encs enc (xs.take m) = cur.toList.take m := by
    have : encs enc (xs.take m) = (encs enc xs).take m := by simp [encs, List.map_take]
    rw [this, ← htk, List.take_take, Nat.min_eq_left hm]
  have e2 : encs enc (xs.drop (m + z)) = (cur.toList.drop (m + z)).take (xs.length - (m + z)) := by
    have : encs enc (xs.drop (m + z)) = (encs enc xs).drop (m + z) := by simp [encs, List.map_drop]
    rw [this, ← htk, List.drop_take]
  have hcl : cur.toList.length = cap := by rw [Array.length_toList]; omega
  rw [h5, hkl, Nat.mul_one, encs_append, encs_append, e1, e2]
  rw [List.take_append, List.take_of_length_le (by rw [List.length_append, List.length_take, hkl]; omega)]
  congr 2
  rw [List.length_append, List.length_take, hkl]
  omega
theorem rep_take (v : Int) (m r : Nat) : (List.replicate m v ++ List.replicate r (0 : Int)).take m = List.replicate m v := by rw [List.take_append, List.length_replicate, Nat.sub_self, List.take_zero, List.append_nil, List.take_of_length_le (by rw [List.length_replicate]; omega)]
theorem rep_step (v : Int) (m n K : Nat) (hK : K = min m (n - m)) (hm : m ≤ n) : (List.replicate m v ++ List.replicate (n - m) (0 : Int)).take m ++ (List.replicate m v).take K ++ (List.replicate m v ++ List.replicate (n - m) 0).drop (m + K) = List.replicate (m + K) v ++ List.replicate (n - (m + K)) 0 := by
  rw [rep_take, List.take_replicate, Nat.min_eq_left (by omega), List.replicate_append_replicate, List.drop_append, List.length_replicate, List.drop_of_length_le (by rw [List.length_replicate]; omega), List.nil_append, List.drop_replicate, show n - m - (m + K - m) = n - (m + K) by omega]
theorem mul_one_ : ∀ n : Fin 17, bits_Mul.f 1 ((n.val : Nat) : Int) = some (0, ((n.val : Nat) : Int)) := by decide +kernel
def repeat_T9 : Bool × List (List Nat × List Nat) := (true, [([], []), ([], []), ([], []), ([1, 2], [1, 2]), ([], []), ([], []), ([4, 5], [4, 5]), ([3, 6], [3, 6]), ([0, 7], [0, 7]), ([8, 7, 0, 1, 2, 3, 4, 5, 6, 7, 8], [0, 2, 5, 8])])
def repeat_B9 : List Nat := [0, 0, 0, 6, 0, 0, 48, 126, 255, 511]
theorem repeat_tab9 : rtab .any (opsOf Tryd.f75 9) = repeat_T9 := by kernel_rfl
theorem repeat_bits9 : waitsOk repeat_T9.2 repeat_B9 = true := by kernel_rfl
set_option maxHeartbeats 8000000 in
set_option maxRecDepth 100000 in
theorem repeat_calls (ad : Addr) (c : Nat) (v : Int) (n : Nat) (h1 : 1 ≤ n) (h16 : n ≤ 16) (w : World) (hr : Kd.C (Kd.int .i64) w (some ad) 1 [v]) (hc : 1 ≤ c) :
    Calls Tryd.prog 75 #[.slice (some ad) 1 c, .int .i64 (n : Int)] w fun e w' => ∃ v0_ : Value, e = .returned v0_ ∧ Kd.R (Kd.int .i64) 3 w' w.heap.size (fun _ => True) v0_ (List.replicate n v) ∧ Below w.heap.size w w' := by
  have K := bits_Mul.calls 1 (n : Int) 0 (n : Int) w (mul_one_ ⟨n, by omega⟩)
  have HK := Aside0.mk K
  have HR := Aside0.mk hr
  have H1 := Aside0.mk h1
  have H16 := Aside0.mk h16
  clear K hr
  have d0 : decide ((n : Int) < 0) = false := decide_eq_false (by omega)
  have d1 : IntKind.u64.wrap (n : Int) = (n : Int) := by show (n : Int) % 18446744073709551616 = n; omega
  have d2 : IntKind.i64.wrap (n : Int) = (n : Int) := by rw [i64_w]; unfold wrap64; omega
  have d3 : decide (9223372036854775807 < (n : Int)) = false := decide_eq_false (by omega)
  go_enter Tryd.func75, Tryd.ntmps75
  go_wp2_with fail
  refine HK.out.mono ?_
  rintro e w1 ⟨rfl, ⟨nd, rfl⟩⟩
  have HB := Aside0.mk (pw_below_drewN (Below.refl w.heap.size w) nd)
  have HR1 := Aside0.mk (Kd.C_drewN HR.out nd)
  generalize w.drewN nd = w2 at *
  clear HR HK
  go_wp2_with (first
    | ((with_reducible refine gate_dst (N := 30) rfl ?_); refine Kd.R_make (Kd.int .i64) _ 3 rfl (N := 30) rfl 32 _ _ rfl (n : Int) rfl rfl Tryd.underlying32 (.int .i64 0) 8 infoI rfl (by decide) (by omega) 0 (ok := fun _ => True) (okp := fun _ => True) rfl (fun _ hk => hk) trivial (by omega) (by have := H16.out; omega) (Below.refl _ _) (Nat.le_refl _) ?_; intro v7 w5 ho hb hg_ hnew_; clear hg_ hnew_; simp only [Int.toNat_natCast] at ho; obtain ⟨g, cap, e7, hg1, hg2, cs7, hcs7⟩ := Kd.R_form ho (by rw [List.length_replicate]; exact H1.out); subst e7; rw [List.length_replicate] at ho ⊢; have HO := Aside0.mk (Kd.R_lower ho HB.out.size); have HR2 := Aside0.mk (Kd.C_below HR1.out hb); have HB2 := Aside0.mk (below_step HB.out hb); clear ho hb hg1 hg2 hcs7 HB HR1)
    | ((with_reducible refine gate_dst (N := 33) rfl ?_); refine Kd.R_copy (d := (0 : Int)) w.heap.size rfl (.tmp 31) (.tmp 32) 32 32 3 rfl Tryd.underlying32 info1 _ (List.replicate n 0) [v] (some ad) 1 c (fun _ => True) rfl rfl HO.out HR2.out HB2.out HB2.out.size ?_; intro w6 ho hb hg_; clear hg_; rw [show min 1 (List.replicate n (0 : Int)).length = 1 by rw [List.length_replicate]; have := H1.out; omega] at ho ⊢; have HO3 := Aside0.mk (show Kd.R (Kd.int .i64) 3 w6 w.heap.size (fun _ => True) (.slice (some ⟨g, 0, none⟩) n cap) (List.replicate 1 v ++ List.replicate (n - 1) 0) by rw [List.drop_replicate] at ho; exact ho); have HB3 := Aside0.mk hb; clear ho hb HO HR2 HB2))
  go_loopg [8] n (fun gg v8 wr => ∃ m : Nat, v8 = .int .i64 (m : Int) ∧ 1 ≤ m ∧ m ≤ n ∧ n - m ≤ gg ∧ Aside0 (Kd.R (Kd.int .i64) 3 wr w.heap.size (fun _ => True) (.slice (some ⟨g, 0, none⟩) n cap) (List.replicate m v ++ List.replicate (n - m) 0)) ∧ Aside0 (Below w.heap.size w wr))
  case atStart => exact ⟨1, rfl, Nat.le_refl _, H1.out, by omega, HO3, HB3⟩
  case round =>
    obtain ⟨m, rfl, m1, m2, hgg, HO, HB⟩ := hrel
    clear HO3 HB3
    have hcap : n ≤ cap := (Kd.R_reads' HO.out).2.1
    by_cases hlt : m < n
    · have hltz : (m : Int) < (n : Int) := by omega
      have hm0 : (0 : Int) ≤ (m : Int) := by omega
      have hmc : (m : Int) ≤ (cap : Int) := by omega
      have hne : ¬ cap = m := by omega
      have hmn : (m : Int) ≤ (n : Int) := by omega
      obtain ⟨K, hK⟩ : ∃ K, K = min m (n - m) := ⟨_, rfl⟩
      have hw : IntKind.i64.wrap ((m : Int) + (K : Int)) = ((m + K : Nat) : Int) := by rw [i64_w]; unfold wrap64; omega
      go_wp2_with fail
      have HO1 := Aside0.mk (Kd.R_drew HO.out)
      have HB1 := Aside0.mk (below_drew1 HB.out)
      have HC1 := Aside0.mk (Kd.C_take (m := m) (Kd.R_reads' HO1.out).2.2 (by rw [List.length_append, List.length_replicate]; omega))
      clear HO HB
      refine start_ (n := 10) (S := fun _ => True) (ds := []) #[false, false, false, false, false, false, false, false, false, false] (by kernel_rfl) rfl rfl trivial (fun hHeld => ?_); refine with_tabW repeat_tab9 repeat_bits9 (fun HT_ HW_ => ?_)
      generalize wr.drew = w4 at *
      refine pure_ (i := 0) (N := some 38) (v := ?_) (a' := ?_) #[true, false, false, false, false, false, false, false, false, false] rfl rfl (any_of HT_.out (by kernel_rfl)) (fun _ _ _ h => h) (Or.inl ⟨by rfl, ?_⟩) ?_ ?_
      rotate_left
      · intro w'
        go_simp
        with_reducible rfl
      rotate_left
      · simp only [Act.put, List.setIfInBounds_toArray, List.set_cons_zero, List.set_cons_succ, i64_w, i32_w]
        rfl
      refine pure_ (i := 1) (N := some 39) (v := ?_) (a' := ?_) #[true, true, false, false, false, false, false, false, false, false] rfl rfl (any_of HT_.out (by kernel_rfl)) (fun _ _ _ h => h) (Or.inl ⟨by rfl, ?_⟩) ?_ ?_
      rotate_left
      · intro w'
        go_simp
        with_reducible rfl
      rotate_left
      · simp only [Act.put, List.setIfInBounds_toArray, List.set_cons_zero, List.set_cons_succ, i64_w, i32_w]
        rfl
      refine pure_ (i := 2) (N := some 40) (v := ?_) (a' := ?_) #[true, true, true, false, false, false, false, false, false, false] rfl rfl (any_of HT_.out (by kernel_rfl)) (fun _ _ _ h => h) (Or.inl ⟨by rfl, ?_⟩) ?_ ?_
      rotate_left
      · intro w'
        go_simp
        with_reducible rfl
      rotate_left
      · simp only [Act.put, List.setIfInBounds_toArray, List.set_cons_zero, List.set_cons_succ, i64_w, i32_w]
        rfl
      refine pure_ (i := 3) (N := some 41) (v := ?_) (a' := ?_) #[true, true, true, true, false, false, false, false, false, false] rfl rfl (any_of HT_.out (by kernel_rfl)) (fun _ _ _ h => h) (Or.inl ⟨by rfl, ?_⟩) ?_ ?_
      rotate_left
      · intro w'
        go_simp
        with_reducible rfl
      rotate_left
      · simp only [Act.put, List.setIfInBounds_toArray, List.set_cons_zero, List.set_cons_succ, i64_w, i32_w]
        rfl
      refine pure_ (i := 4) (N := some 42) (v := ?_) (a' := ?_) #[true, true, true, true, true, false, false, false, false, false] rfl rfl (any_of HT_.out (by kernel_rfl)) (fun _ _ _ h => h) (Or.inl ⟨by rfl, ?_⟩) ?_ ?_
      rotate_left
      · intro w'
        go_simp
        with_reducible rfl
      rotate_left
      · simp only [Act.put, List.setIfInBounds_toArray, List.set_cons_zero, List.set_cons_succ, i64_w, i32_w]
        rfl
      refine pure_ (i := 5) (N := some 43) (v := ?_) (a' := ?_) #[true, true, true, true, true, true, false, false, false, false] rfl rfl (any_of HT_.out (by kernel_rfl)) (fun _ _ _ h => h) (Or.inl ⟨by rfl, ?_⟩) ?_ ?_
      rotate_left
      · intro w'
        go_simp
        with_reducible rfl
      rotate_left
      · simp only [Act.put, List.setIfInBounds_toArray, List.set_cons_zero, List.set_cons_succ, i64_w, i32_w]
        rfl
      refine pure_ (i := 6) (N := some 44) (v := ?_) (a' := ?_) #[true, true, true, true, true, true, true, false, false, false] rfl rfl (any_of HT_.out (by kernel_rfl)) (fun _ _ _ h => h) (Or.inl ⟨by rfl, ?_⟩) ?_ ?_
      rotate_left
      · intro w'
        go_simp
        with_reducible rfl
      rotate_left
      · simp only [Act.put, List.setIfInBounds_toArray, List.set_cons_zero, List.set_cons_succ, i64_w, i32_w]
        rfl
      refine one_ (i := 7) (N := some 45) #[true, true, true, true, true, true, true, true, false, false] rfl rfl (one_of HT_.out (by kernel_rfl)) (by decide) (fun KK hKK => ?_)
      refine R_copy_off_step (d := (0 : Int)) w.heap.size (by rfl) (.tmp 41) (.tmp 44) 32 32 3 rfl Tryd.underlying32 info1 g m n cap _ (List.replicate m v ++ List.replicate (n - m) 0) (List.replicate m v) _ m _ (fun _ => True) rfl rfl HO1.out (by have h := HC1.out; rw [rep_take, List.length_replicate] at h; exact h) HB1.out HB1.out.size (by rw [List.length_append, List.length_replicate, List.length_replicate]; omega) m2 (by omega) ?_
      rw [← hK]
      intro w6 ho hb
      have HO2 := Aside0.mk (show Kd.R (Kd.int .i64) 3 w6 w.heap.size (fun _ => True) (.slice (some ⟨g, 0, none⟩) n cap) (List.replicate (m + K) v ++ List.replicate (n - (m + K)) 0) by rw [rep_step v m n K hK m2] at ho; exact ho)
      have HB2 := Aside0.mk hb
      clear ho hb HO1 HB1 HC1
      refine hKK.out _ _ trivial (fun hHeld => ?_)
      clear hKK KK
      refine norm_ (a' := ?_) ?_ ?_
      rotate_left
      · show Act.put _ (some 45) _ = _
        simp only [Act.put, List.setIfInBounds_toArray, List.set_cons_zero, List.set_cons_succ, i64_w, i32_w]
        rfl
      refine pure_ (i := 8) (N := some 46) (v := ?_) (a' := ?_) #[true, true, true, true, true, true, true, true, true, false] rfl rfl (any_of HT_.out (by kernel_rfl)) (fun _ _ _ h => h) (Or.inl ⟨by rfl, ?_⟩) ?_ ?_
      rotate_left
      · intro w'
        go_simp
        with_reducible rfl
      rotate_left
      · simp only [Act.put, List.setIfInBounds_toArray, List.set_cons_zero, List.set_cons_succ, i64_w, i32_w]
        rfl
      refine pure_ (i := 9) (N := some 8) (v := ?_) (a' := ?_) #[true, true, true, true, true, true, true, true, true, true] rfl rfl (any_of HT_.out (by kernel_rfl)) (fun _ _ _ h => h) (Or.inl ⟨by rfl, ?_⟩) ?_ ?_
      rotate_left
      · intro w'
        go_simp
        with_reducible rfl
      rotate_left
      · simp only [Act.put, List.setIfInBounds_toArray, List.set_cons_zero, List.set_cons_succ, i64_w, i32_w]
        rfl
      refine done_ (done_of HT_.out (by kernel_rfl)) ?_
      try go_wp2
      go_roundg (n - (m + K))
      case measure => omega
      case rel => exact ⟨m + K, by rw [← hK, ← i64_w, hw], by omega, by omega, by omega, HO2, HB2⟩
    · have hltz : ¬ (m : Int) < (n : Int) := by omega
      obtain rfl : m = n := by omega
      go_wp2
      go_ret
      exact ⟨_, rfl, by have h := HO.out; rw [Nat.sub_self, List.replicate_zero, List.append_nil] at h; exact h, HB.out⟩
end Go.Proofs.YtjiheojjfnfmaaaDoor.LT

