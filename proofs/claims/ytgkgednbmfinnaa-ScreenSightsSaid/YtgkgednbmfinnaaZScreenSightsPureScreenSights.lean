/- Of the text PureScreenSights, what the row of ScreenSights reaches. -/
import Derived.Test.YtgkgednbmfinnaaZScreenSightsSLibB
import Derived.Test.YtgkgednbmfinnaaZScreenSightsSCx21
namespace Go.Proofs.Ytgkgednbmfinnaa.Pure
set_option linter.unusedVariables false
set_option linter.unusedSimpArgs false
open Go.RowKit Go.Proofs.Ytgkgednbmfinnaa.SC Go.Proofs.YtgkgednbmfinnaaW.PrintWords Go.Proofs.YtgkgednbmfinnaaW.PrintLast Go.Proofs.YtgkgednbmfinnaaW.PrintMore

/-- the number whose ones are told by q -/
def rv (q : Nat → Bool) : Nat → Nat
  | 0 => 0
  | n + 1 => rv q n + (if q n then 2 ^ n else 0)
theorem rv_lt (q : Nat → Bool) : ∀ n, rv q n < 2 ^ n
  | 0 => by simp [rv]
  | n + 1 => by
    have := rv_lt q n
    unfold rv
    rw [Nat.pow_succ]
    split <;> omega
theorem rv_bit (q : Nat → Bool) : ∀ n k, k < n → (rv q n).testBit k = q k
  | 0, k, h => absurd h (by omega)
  | n + 1, k, h => by
    unfold rv
    by_cases e : k = n
    · subst e
      have lo := Nat.testBit_lt_two_pow (rv_lt q k)
      cases hq : q k
      · rw [if_neg (by decide), Nat.add_zero]; exact lo
      · rw [if_pos rfl, Nat.add_comm, Nat.testBit_two_pow_add_eq, lo]; rfl
    · have R := rv_bit q n k (by omega)
      cases hq : q n
      · rw [if_neg (by decide), Nat.add_zero]; exact R
      · rw [if_pos rfl, Nat.add_comm, Nat.testBit_two_pow_add_gt (by omega)]; exact R
theorem i64_small (n : Int) (h : 0 ≤ n) (h2 : n < 2 ^ 62) : IntKind.i64.wrap n = n := by
  rw [IntKind.wrap_i64]
  rw [show (2 : Int) ^ 62 = 4611686018427387904 from by decide] at h2
  omega
theorem pow_small {k : Nat} (h : k ≤ 16) : 2 ^ k ≤ 65536 := Nat.le_trans (Nat.pow_le_pow_right (by decide) h) (by decide)
theorem pow_int (k : Nat) : (2 : Int) ^ k = ((2 ^ k : Nat) : Int) := by rw [Int.natCast_pow]; rfl
theorem shl1 {k : Nat} (h : k ≤ 16) : shl .i64 1 (k : Int) = ((2 ^ k : Nat) : Int) := by
  unfold shl
  have := pow_small h
  rw [Int.toNat_natCast, show IntKind.i64.bits = 64 from rfl, Nat.min_eq_left (by omega), Int.one_mul, pow_int]
  refine i64_small _ (Int.natCast_nonneg _) ?_
  rw [show (2 : Int) ^ 62 = 4611686018427387904 from by decide]
  generalize 2 ^ k = z at *
  omega
theorem bits64 (a b : Nat) (ha : a < 2 ^ 62) (hb : b < 2 ^ 62) : Go.bits .and .i64 (a : Int) (b : Int) = ((a &&& b : Nat) : Int) ∧ Go.bits .or .i64 (a : Int) (b : Int) = ((a ||| b : Nat) : Int) := bits_nat .i64 62 (by decide) i64_small a b ha hb
theorem or_step (q : Nat → Bool) {k : Nat} (h : k < 16) (hq : q k = true) : Go.bits .or .i64 (rv q k : Int) (shl .i64 1 (k : Int)) = ((rv q (k + 1) : Nat) : Int) := by
  have a := rv_lt q k
  have b := pow_small (show k ≤ 16 by omega)
  rw [shl1 (by omega)]
  have c := bits64 (rv q k) (2 ^ k) (Nat.lt_of_lt_of_le (Nat.lt_of_lt_of_le a b) (by decide)) (Nat.lt_of_le_of_lt b (by decide))
  have d := Nat.two_pow_add_eq_or_of_lt a 1
  rw [Nat.mul_one] at d
  have e : rv q k ||| 2 ^ k = rv q (k + 1) := by
    rw [Nat.or_comm, ← d]
    show _ = rv q k + (if q k then 2 ^ k else 0)
    rw [hq, if_pos rfl, Nat.add_comm]
  rw [← e]; exact c.2
theorem bit_at (v k : Nat) (hv : v < 2 ^ 62) (hk : k ≤ 16) : Go.bits .and .i64 (shr .i64 (v : Int) (IntKind.u64.wrap (k : Int))) 1 = if v.testBit k then 1 else 0 := by
  have w : IntKind.u64.wrap (k : Int) = k := by
    simp only [IntKind.wrap, IntKind.bits, IntKind.signed, Bool.false_and]
    rw [if_neg (by decide)]
    omega
  rw [w]
  unfold shr
  rw [Int.toNat_natCast, show IntKind.i64.bits = 64 from rfl, Nat.min_eq_left (by omega), pow_int, ← Int.natCast_ediv]
  have lt : v / 2 ^ k < 2 ^ 62 := Nat.lt_of_le_of_lt (Nat.div_le_self _ _) hv
  have c := bits64 (v / 2 ^ k) 1 lt (by decide)
  have e : v / 2 ^ k &&& 1 = v / 2 ^ k % 2 := Nat.and_one_is_mod _
  rw [e] at c
  have f : ((v / 2 ^ k % 2 : Nat) : Int) = if v.testBit k then 1 else 0 := by
    rw [Nat.testBit_eq_decide_div_mod_eq]
    by_cases g : v / 2 ^ k % 2 = 1
    · rw [decide_eq_true g, if_pos rfl, g]; rfl
    · rw [decide_eq_false g, if_neg (by decide)]; omega
  rw [← f]
  exact c.1

/-- whether the i-th of points sees the k-th -/
def sq (l : List S55) (p : List S23) (i k : Nat) : Bool := sE l (rd_T23 p i).f0 (rd_T23 p i).f1 (rd_T23 p k).f0 (rd_T23 p k).f1
theorem sq_comm (l : List S55) (p : List S23) (i k : Nat) : sq l p i k = sq l p k i := sE_comm ..
def sgL (l : List S55) (p : List S23) : Nat → List Int
  | 0 => []
  | n + 1 => sgL l p n ++ [((rv (sq l p n) p.length : Nat) : Int)]
theorem sgL_len (l : List S55) (p : List S23) : ∀ n, (sgL l p n).length = n
  | 0 => rfl
  | n + 1 => by unfold sgL; rw [List.length_append, sgL_len l p n]; rfl
theorem rdP_in {p : List S23} (h : plB p = true) (i : Nat) (hi : i < p.length) : inR (rd_T23 p i).f0 (rd_T23 p i).f1 := by
  rw [rdP_at p i hi]; exact plB_in h _ (List.getElem_mem hi)
theorem mid_rd (a : List Int) (x : Int) (b : List Int) : rd (a ++ x :: b) (a.length : Nat) = x := by
  rw [rd_at _ _ (by simp)]; simp
theorem mid_set (a : List Int) (x y : Int) (b : List Int) : (a ++ x :: b).set a.length y = a ++ y :: b := by simp
theorem sights_l1 {l : List S55} {p : List S23} (h : valR l = 0) (hp : plB p = true) (h16 : p.length ≤ 16) (i : Nat) (hi : i < p.length) (z : List Int) (r : List Int)
    (K : Ev (fun k => screen_sights.l0 k l p (sgL l p (i + 1) ++ z) p (p.length : Int) ((i + 1 : Nat) : Int)) r) : ∀ (d k : Nat), k + d = p.length →
    Ev (fun n => screen_sights.l1 n l p (sgL l p i ++ ((rv (sq l p i) k : Nat) : Int) :: z) (i : Int) p (p.length : Int) (i : Int) p (p.length : Int) (k : Int) (rd_T23 p i).f0 (rd_T23 p i).f1) r
  | 0, k, hk => by
    obtain rfl : k = p.length := by omega
    refine Ev.step (fun k => screen_sights.l1.eq_2 ..) (evn (by omega) ?_)
    rw [w64 (by omega) (by omega)]
    unfold sgL at K
    rw [List.append_assoc, List.singleton_append] at K
    exact K
  | d + 1, k, hk => by
    have hlt : k < p.length := by omega
    have R := sights_l1 h hp h16 i hi z r K d (k + 1) (by omega)
    refine Ev.step (fun k => screen_sights.l1.eq_2 ..) (evp (by omega) (evp (by omega) (evp (by omega) (evs (sees_eq h (rdP_in hp i hi) (rdP_in hp k hlt)) ?_))))
    rw [w64 (n := (k : Int) + 1) (by omega) (by omega)]
    have L := sgL_len l p i
    by_cases q : sq l p i k = true
    · refine evp q (evp (by omega) (evp (by rw [List.length_append, L, List.length_cons]; omega) ?_))
      have e1 := mid_rd (sgL l p i) ((rv (sq l p i) k : Nat) : Int) z
      rw [L] at e1
      have e2 := mid_set (sgL l p i) ((rv (sq l p i) k : Nat) : Int) ((rv (sq l p i) (k + 1) : Nat) : Int) z
      rw [L] at e2
      rw [e1, or_step (sq l p i) (by omega) q, Int.toNat_natCast, e2]
      exact R
    · refine evn q ?_
      have e : rv (sq l p i) (k + 1) = rv (sq l p i) k := by
        show rv (sq l p i) k + (if sq l p i k then 2 ^ k else 0) = _
        rw [if_neg q, Nat.add_zero]
      rw [e] at R
      exact R
theorem sights_l0 {l : List S55} {p : List S23} (h : valR l = 0) (hp : plB p = true) (h16 : p.length ≤ 16) : ∀ (d i : Nat), i + d = p.length →
    Ev (fun k => screen_sights.l0 k l p (sgL l p i ++ List.replicate d 0) p (p.length : Int) (i : Int)) (sgL l p p.length)
  | 0, i, hi => by
    obtain rfl : i = p.length := by omega
    refine Ev.step (fun k => screen_sights.l0.eq_2 ..) (evn (by omega) ?_)
    rw [List.replicate_zero, List.append_nil]; exact Ev.now _
  | d + 1, i, hi => by
    have R := sights_l1 h hp h16 i (by omega) (List.replicate d 0) _ (sights_l0 h hp h16 d (i + 1) (by omega)) p.length 0 (by omega)
    refine Ev.step (fun k => screen_sights.l0.eq_2 ..) (evp (by omega) (evp (by omega) (evp (by omega) ?_)))
    rw [List.replicate_succ]
    exact R
theorem sights_ev {l : List S55} {p : List S23} (h : valR l = 0) (hp : plB p = true) (h16 : p.length ≤ 16) : Ev (fun k => screen_sights.f k l p) (sgL l p p.length) := by
  unfold screen_sights.f
  refine evp (by omega) (evp (by omega) ?_)
  rw [Int.toNat_natCast]
  exact sights_l0 h hp h16 p.length 0 (by omega)

def SgR (l : List S55) (p : List S23) : List Int × Int := if lkR l [] p = 0 then (sgL l p p.length, 0) else ([], lkR l [] p)
theorem SgR_0 {l : List S55} {p : List S23} (h : lkR l [] p = 0) : SgR l p = (sgL l p p.length, 0) := if_pos h
theorem SgR_n {l : List S55} {p : List S23} (h : ¬ lkR l [] p = 0) : SgR l p = ([], lkR l [] p) := if_neg h
theorem pts_in {l : List S55} {p : List S23} (h : lkR l [] p = 0) : valR l = 0 ∧ plB p = true ∧ p.length ≤ 16 := by
  obtain ⟨h1, _, h2, _, h3⟩ := lkR_ok h
  exact ⟨h1, h3, h2⟩
theorem Sights_ev (l : List S55) (p : List S23) : Ev (fun k => screen_Sights.f k l p) (SgR l p) := by
  unfold screen_Sights.f
  refine evb (checked_ev ..) ?_
  rw [ckR_z]
  by_cases h : lkR l [] p = 0
  · rw [SgR_0 h]
    obtain ⟨h1, h2, h3⟩ := pts_in h
    exact evp h (evb (sights_ev h1 h2 h3) (Ev.now _))
  · rw [SgR_n h]; exact evn h (Ev.now _)
theorem rSights_l1 {l : List S55} {p : List S23} (h : valR l = 0) (hp : plB p = true) (h16 : p.length ≤ 16) (i : Nat) (hi : i < p.length) (r : List Int × Int)
    (K : Ev (fun k => wigeonref02_Sights.l0 k l p (sgL l p (i + 1)) ((i + 1 : Nat) : Int)) r) : ∀ (d k : Nat), k + d = p.length →
    Ev (fun n => wigeonref02_Sights.l1 n l p (sgL l p i) (i : Int) ((rv (sq l p i) k : Nat) : Int) (k : Int)) r
  | 0, k, hk => by
    obtain rfl : k = p.length := by omega
    refine Ev.step (fun k => wigeonref02_Sights.l1.eq_2 ..) (evn (by omega) (evp (by rw [sgL_len]; omega) ?_))
    rw [w64 (by omega) (by omega)]
    unfold sgL at K
    exact K
  | d + 1, k, hk => by
    have hlt : k < p.length := by omega
    have R := rSights_l1 h hp h16 i hi r K d (k + 1) (by omega)
    refine Ev.step (fun k => wigeonref02_Sights.l1.eq_2 ..) (evp (by omega) (evp (by omega) (evp (by omega) (evp (by omega) (evb (rsees_ev h (rdP_in hp i hi) (rdP_in hp k hlt)) ?_)))))
    have w : IntKind.u64.wrap (k : Int) = k := by
      simp only [IntKind.wrap, IntKind.bits, IntKind.signed, Bool.false_and]
      rw [if_neg (by decide)]
      omega
    rw [w64 (n := (k : Int) + 1) (by omega) (by omega), w, shl1 (by omega)]
    have a := rv_lt (sq l p i) k
    have b := pow_small (show k ≤ 16 by omega)
    have e : rv (sq l p i) (k + 1) = rv (sq l p i) k + (if sq l p i k then 2 ^ k else 0) := rfl
    by_cases q : sq l p i k = true
    · refine evp q (evp (by omega) ?_)
      rw [e, if_pos q] at R
      generalize 2 ^ k = z at *
      generalize rv (sq l p i) k = y at *
      rw [w64 (by omega) (by omega), show ((y : Int) + (z : Int)) = ((y + z : Nat) : Int) by omega]
      exact R
    · rw [e, if_neg q, Nat.add_zero] at R
      exact evn q R
theorem rSights_l0 {l : List S55} {p : List S23} (h : valR l = 0) (hp : plB p = true) (h16 : p.length ≤ 16) : ∀ (d i : Nat), i + d = p.length →
    Ev (fun k => wigeonref02_Sights.l0 k l p (sgL l p i) (i : Int)) (sgL l p p.length, 0)
  | 0, i, hi => by
    obtain rfl : i = p.length := by omega
    exact Ev.step (fun k => wigeonref02_Sights.l0.eq_2 ..) (evn (by omega) (Ev.now _))
  | d + 1, i, hi => by
    have R := rSights_l1 h hp h16 i (by omega) _ (rSights_l0 h hp h16 d (i + 1) (by omega)) p.length 0 (by omega)
    exact Ev.step (fun k => wigeonref02_Sights.l0.eq_2 ..) (evp (by omega) R)
theorem rSights_ev (l : List S55) (p : List S23) (hl : p.length ≤ 100000) : Ev (fun k => wigeonref02_Sights.f k l p) (SgR l p) := by
  unfold wigeonref02_Sights.f
  refine evb (looked_ev _ _ _ (by simp) hl) ?_
  by_cases h : lkR l [] p = 0
  · rw [SgR_0 h]
    obtain ⟨h1, h2, h3⟩ := pts_in h
    exact evp h (rSights_l0 h1 h2 h3 p.length 0 (by omega))
  · rw [SgR_n h]; exact evn h (Ev.now _)

theorem sgL_at (l : List S55) (p : List S23) : ∀ (n i : Nat), i < n → rd (sgL l p n) (i : Int) = ((rv (sq l p i) p.length : Nat) : Int)
  | 0, i, h => absurd h (by omega)
  | n + 1, i, h => by
    have L := sgL_len l p n
    unfold sgL
    by_cases e : i = n
    · subst e
      have := mid_rd (sgL l p i) ((rv (sq l p i) p.length : Nat) : Int) []
      rw [L] at this; exact this
    · have R := sgL_at l p n i (by omega)
      rw [rd_at _ _ (by omega)] at R
      rw [rd_at _ _ (by rw [List.length_append, L]; simp; omega), List.getElem_append_left (by omega)]
      exact R
theorem rv16 (q : Nat → Bool) {n : Nat} (h : n ≤ 16) : rv q n < 2 ^ 62 := Nat.lt_of_lt_of_le (Nat.lt_of_lt_of_le (rv_lt q n) (pow_small h)) (by decide)
theorem sym_l1 {l : List S55} {p : List S23} (h16 : p.length ≤ 16) (i : Nat) (hi : i < p.length) (K : Ev (fun k => wigeonlaw02_ScreenSights.l0 k (sgL l p p.length) ((i + 1 : Nat) : Int)) true) : ∀ (d k : Nat), k + d = i →
    Ev (fun n => wigeonlaw02_ScreenSights.l1 n (sgL l p p.length) (i : Int) (k : Int)) true
  | 0, k, hk => by
    refine Ev.step (fun k => wigeonlaw02_ScreenSights.l1.eq_2 ..) (evn (by omega) ?_)
    rw [w64 (by omega) (by omega)]
    exact K
  | d + 1, k, hk => by
    have R := sym_l1 h16 i hi K d (k + 1) (by omega)
    have w : ∀ m : Nat, m ≤ 16 → 0 ≤ IntKind.u64.wrap (m : Int) := by
      intro m hm
      simp only [IntKind.wrap, IntKind.bits, IntKind.signed, Bool.false_and]
      rw [if_neg (by decide)]
      omega
    have L := sgL_len l p p.length
    refine Ev.step (fun k => wigeonlaw02_ScreenSights.l1.eq_2 ..) (evp (by omega) (evp (by omega) (evp (by omega) (evp (w k (by omega)) (evp (by omega) (evp (by omega) (evp (w i (by omega)) (evp ?_ ?_))))))))
    · rw [sgL_at l p p.length i hi, sgL_at l p p.length k (by omega), bit_at _ _ (rv16 _ h16) (by omega), bit_at _ _ (rv16 _ h16) (by omega), rv_bit _ _ _ (by omega), rv_bit _ _ _ (by omega), sq_comm]
    · rw [w64 (by omega) (by omega)]; exact R
theorem sym_l0 {l : List S55} {p : List S23} (h16 : p.length ≤ 16) : ∀ (d i : Nat), i + d = p.length → Ev (fun n => wigeonlaw02_ScreenSights.l0 n (sgL l p p.length) (i : Int)) true
  | 0, i, hi => by
    have L := sgL_len l p p.length
    exact Ev.step (fun k => wigeonlaw02_ScreenSights.l0.eq_2 ..) (evn (by omega) (evb known_ev (Ev.now _)))
  | d + 1, i, hi => by
    have L := sgL_len l p p.length
    exact Ev.step (fun k => wigeonlaw02_ScreenSights.l0.eq_2 ..) (evp (by omega) (sym_l1 h16 i (by omega) (sym_l0 h16 d (i + 1) (by omega)) i 0 (by omega)))
theorem ScreenSights (a0 : List S55) (a1 : List S23) (h0 : (a0.length ≤ 9223372036854775807 ∧ ∀ x_ ∈ a0, (((Lit.int .i64 x_.f0.f0).wf = true) ∧ ((Lit.int .i64 x_.f0.f1).wf = true)) ∧ (((Lit.int .i64 x_.f1.f0).wf = true) ∧ ((Lit.int .i64 x_.f1.f1).wf = true)))) (h1 : (a1.length ≤ 9223372036854775807 ∧ ∀ x_ ∈ a1, ((Lit.int .i64 x_.f0).wf = true) ∧ ((Lit.int .i64 x_.f1).wf = true))) : ∃ k, wigeonlaw02_ScreenSights.f k a0 a1 = some true := by
  refine Ev.rounds (g := fun k => wigeonlaw02_ScreenSights.f k a0 a1) ?_
  unfold wigeonlaw02_ScreenSights.f
  refine evs (Long_eq ..) ?_
  by_cases h : a0.length > 100 ∨ a1.length > 100
  · rw [decide_eq_true h]; exact evp rfl (evb known_ev (Ev.now _))
  · rw [decide_eq_false h]
    have ln : (SgR a0 a1).1.length ≤ 100000 := by
      unfold SgR
      split
      · rw [sgL_len]; omega
      · simp
    refine evn (by decide) (evb (Sights_ev ..) (evb (rSights_ev _ _ (by omega)) (evp rfl (evb (same_ev _ ln) (Ev.step (fun k => wigeonlaw02_ScreenSights.j0.eq_2 ..) (evn (by decide) ?_))))))
    by_cases z : lkR a0 [] a1 = 0
    · rw [SgR_0 z]
      exact sym_l0 (pts_in z).2.2 a1.length 0 (by omega)
    · rw [SgR_n z]
      exact Ev.step (fun k => wigeonlaw02_ScreenSights.l0.eq_2 ..) (evn (by simp) (evb known_ev (Ev.now _)))

end Go.Proofs.Ytgkgednbmfinnaa.Pure

