/- The plain law behind the row: what the printed functions of this law compute answers true, for every input that the row lets in. -/
import Derived.Test.YthjdocddohijnaaBLibB
import Derived.Test.YthjdocddohijnaaBKx15
namespace Go.Proofs.Ythjdocddohijnaa.Pure
set_option linter.unusedVariables false
set_option linter.unusedSimpArgs false
open Go.RowKit Go.Proofs.Ythjdocddohijnaa.BK Go.Proofs.YthjdocddohijnaaW.PrintWords Go.Proofs.YthjdocddohijnaaW.PrintLast


def cmn : List ByteArray → List ByteArray → Nat
  | x :: a, y :: b => if x.toList = y.toList then cmn a b + 1 else 0
  | _, _ => 0
theorem cmn_le : ∀ a b : List ByteArray, cmn a b ≤ a.length ∧ cmn a b ≤ b.length
  | [], _ => by simp [cmn]
  | _ :: _, [] => by simp [cmn]
  | x :: a, y :: b => by
    unfold cmn
    have := cmn_le a b
    split <;> simp <;> omega
theorem baExt (a b : ByteArray) (h : a.toList = b.toList) : a = b := Go.WideShapes.bytes_inj (by rw [← ByteArray.toList_eq, ← ByteArray.toList_eq, h])
theorem cmn_take : ∀ a b : List ByteArray, a.take (cmn a b) = b.take (cmn a b)
  | [], _ => by simp [cmn]
  | _ :: _, [] => by simp [cmn]
  | x :: a, y :: b => by
    unfold cmn
    by_cases h : x.toList = y.toList
    · rw [if_pos h, List.take_succ_cons, List.take_succ_cons, cmn_take a b, baExt x y h]
    · rw [if_neg h]; simp
theorem common_l0 (a b : List ByteArray) (ha : a.length ≤ 1000) : ∀ d i : Nat, i + d = a.length → Ev (fun k => book_common.l0 k a b (i : Int)) ((i + cmn (a.drop i) (b.drop i) : Nat) : Int)
  | 0, i, h => by
    refine Ev.step (fun k => book_common.l0.eq_2 ..) (evn (by omega) ?_)
    rw [List.drop_eq_nil_of_le (by omega)]; unfold cmn; exact Ev.now _
  | d + 1, i, h => by
    have h1 : i < a.length := by omega
    refine Ev.step (fun k => book_common.l0.eq_2 ..) (evp (by omega) ?_)
    by_cases h2 : i < b.length
    · refine evp (by omega) (evp (by omega) ?_)
      rw [rdS_at a i h1, rdS_at b i h2, List.drop_eq_getElem_cons h1, List.drop_eq_getElem_cons h2]
      unfold cmn
      by_cases e : (a[i]).toList = (b[i]).toList
      · rw [if_pos e, w64 (by omega) (by omega)]
        have R := common_l0 a b ha d (i + 1) (by omega)
        rw [show i + (cmn (a.drop (i + 1)) (b.drop (i + 1)) + 1) = i + 1 + cmn (a.drop (i + 1)) (b.drop (i + 1)) by omega]
        exact evp e R
      · rw [if_neg e]; exact evn e (Ev.now _)
    · refine evn (by omega) ?_
      rw [List.drop_eq_nil_of_le (show b.length ≤ i by omega), List.drop_eq_getElem_cons h1]; unfold cmn; exact Ev.now _
theorem rcommon_l0 (a b : List ByteArray) (ha : a.length ≤ 1000) : ∀ d i : Nat, i + d = a.length → Ev (fun k => wigeonref09_common.l0 k a b (i : Int)) ((i + cmn (a.drop i) (b.drop i) : Nat) : Int)
  | 0, i, h => by
    refine Ev.step (fun k => wigeonref09_common.l0.eq_2 ..) (evn (by omega) ?_)
    rw [List.drop_eq_nil_of_le (by omega)]; unfold cmn; exact Ev.now _
  | d + 1, i, h => by
    have h1 : i < a.length := by omega
    refine Ev.step (fun k => wigeonref09_common.l0.eq_2 ..) (evp (by omega) ?_)
    by_cases h2 : i < b.length
    · refine evp (by omega) (evp (by omega) ?_)
      rw [rdS_at a i h1, rdS_at b i h2, List.drop_eq_getElem_cons h1, List.drop_eq_getElem_cons h2]
      unfold cmn
      by_cases e : (a[i]).toList = (b[i]).toList
      · rw [if_pos e, w64 (by omega) (by omega)]
        have R := rcommon_l0 a b ha d (i + 1) (by omega)
        rw [show i + (cmn (a.drop (i + 1)) (b.drop (i + 1)) + 1) = i + 1 + cmn (a.drop (i + 1)) (b.drop (i + 1)) by omega]
        exact evp e R
      · rw [if_neg e]; exact evn e (Ev.now _)
    · refine evn (by omega) ?_
      rw [List.drop_eq_nil_of_le (show b.length ≤ i by omega), List.drop_eq_getElem_cons h1]; unfold cmn; exact Ev.now _
def comR (a b : List ByteArray) : Int × Int := if vP a = 0 then (if vP b = 0 then ((cmn a b : Nat), 0) else (0, vP b)) else (0, vP a)
theorem Common_ev (a b : List ByteArray) (ha : a.length ≤ 1000) (hb : b.length ≤ 1000) : Ev (fun k => book_Common.f k a b) (comR a b) := by
  unfold book_Common.f comR
  refine evb (vP_ev a ha) ?_
  by_cases h : vP a = 0
  · rw [if_pos h]
    refine evp h (evb (vP_ev b hb) ?_)
    by_cases h2 : vP b = 0
    · rw [if_pos h2]
      have := common_l0 a b ha a.length 0 (by omega)
      rw [List.drop_zero, List.drop_zero, Nat.zero_add] at this
      exact evp h2 (evb this (Ev.now _))
    · rw [if_neg h2]; exact evn h2 (Ev.now _)
  · rw [if_neg h]; exact evn h (Ev.now _)
theorem rCommon_ev (a b : List ByteArray) (ha : a.length ≤ 1000) (hb : b.length ≤ 1000) (sa : ∀ s ∈ a, s.size ≤ 9223372036854775807) (sb : ∀ s ∈ b, s.size ≤ 9223372036854775807) : Ev (fun k => wigeonref09_Common.f k a b) (comR a b) := by
  unfold wigeonref09_Common.f comR
  refine evb (rvP_ev a ha sa) ?_
  by_cases h : vP a = 0
  · rw [if_pos h]
    refine evp h (evb (rvP_ev b hb sb) ?_)
    by_cases h2 : vP b = 0
    · rw [if_pos h2]
      have := rcommon_l0 a b ha a.length 0 (by omega)
      rw [List.drop_zero, List.drop_zero, Nat.zero_add] at this
      exact evp h2 (evb this (Ev.now _))
    · rw [if_neg h2]; exact evn h2 (Ev.now _)
  · rw [if_neg h]; exact evn h (Ev.now _)
theorem BookCommons (a0 : List ByteArray) (a1 : List ByteArray) (h0 : (a0.length ≤ 9223372036854775807 ∧ ∀ x_ ∈ a0, x_.size ≤ 9223372036854775807)) (h1 : (a1.length ≤ 9223372036854775807 ∧ ∀ x_ ∈ a1, x_.size ≤ 9223372036854775807)) : ∃ k, wigeonlaw09_BookCommons.f k a0 a1 = some true := by
  refine Ev.rounds (g := fun k => wigeonlaw09_BookCommons.f k a0 a1) ?_
  unfold wigeonlaw09_BookCommons.f
  have Z : Ev (fun k => wigeonlaw09_BookCommons.j0 k a0 a1 true) true := Ev.step (fun k => wigeonlaw09_BookCommons.j0.eq_2 ..) (evp rfl (evb known_ev (Ev.now _)))
  refine evb (Long_ev a0 h0.1) ?_
  by_cases h : longB a0 = true
  · exact evp h Z
  · refine evn h (evb (Long_ev a1 h1.1) ?_)
    cases hq : longB a1
    · obtain ⟨l1, l2⟩ := long_not a0 h
      obtain ⟨m1, m2⟩ := long_not a1 (by rw [hq]; decide)
      refine Ev.step (fun k => wigeonlaw09_BookCommons.j0.eq_2 ..) (evn (by decide) (evb (Common_ev a0 a1 (by omega) (by omega)) (evb (rCommon_ev a0 a1 (by omega) (by omega) h0.2 h1.2) (evp rfl (Ev.step (fun k => wigeonlaw09_BookCommons.j1.eq_2 ..) (evn (by simp) ?_))))))
      unfold comR
      rcases vP_cases a0 with ⟨ha, a64, ap⟩ | ha
      · rw [if_pos ha]
        rcases vP_cases a1 with ⟨hb, b64, bp⟩ | hb
        · rw [if_pos hb]
          obtain ⟨c1, c2⟩ := cmn_le a0 a1
          have R1 := Root_ev (a0.take (cmn a0 a1)) (by rw [List.length_take]; omega)
          have R2 := Root_ev (a1.take (cmn a0 a1)) (by rw [List.length_take]; omega)
          unfold rootR at R1 R2
          rw [if_pos (vP_zero _ (by rw [List.length_take]; omega) (fun s hs => ap s (List.mem_of_mem_take hs)))] at R1
          rw [if_pos (vP_zero _ (by rw [List.length_take]; omega) (fun s hs => bp s (List.mem_of_mem_take hs)))] at R2
          refine evp rfl (evp (by simp only; omega) (evp (by simp only; omega) ?_))
          simp only [Int.toNat_natCast]
          exact evb R1 (evp (by omega) (evb R2 (evp rfl (evp rfl (evp (by rw [cmn_take a0 a1]) (evb known_ev (Ev.now _)))))))
        · rw [if_neg hb]; exact evn hb (evb known_ev (Ev.now _))
      · rw [if_neg ha]; exact evn ha (evb known_ev (Ev.now _))
    · exact Z

end Go.Proofs.Ythjdocddohijnaa.Pure
