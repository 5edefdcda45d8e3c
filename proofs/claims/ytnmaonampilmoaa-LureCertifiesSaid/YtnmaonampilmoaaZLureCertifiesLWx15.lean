/- Of the text LWx15, what the row of LureCertifies reaches. -/
import Derived.Test.YtnmaonampilmoaaZLureCertifiesLWx0
import Derived.Test.YtnmaonampilmoaaZLureCertifiesLWx1
import Derived.Test.YtnmaonampilmoaaZLureCertifiesLWx7
import Derived.Test.YtnmaonampilmoaaZLureCertifiesLWx12
import Derived.Test.YtnmaonampilmoaaZLureCertifiesLWx14
namespace Go.Proofs.Ytnmaonampilmoaa.LW
open Go.RowKit Go.Proofs.YtnmaonampilmoaaW.PrintWords Go.Proofs.YtnmaonampilmoaaW.PrintLast Go.Proofs.YtnmaonampilmoaaW.PrintMore
attribute [local go_sem] max2_int min2_int max_two min_two max_three min_three max_four min_four   -- for this text's walks alone
set_option linter.unusedVariables false
set_option linter.unusedSimpArgs false

set_option maxHeartbeats 4000000 in
set_option maxRecDepth 100000 in
theorem trap1_calls (bs : Nat) (A : Option Addr) (c : Nat) (set : List Int) (x : Int) (W : World) (h0 : W.cell? ⟨bs, 0, none⟩ = some (.slice A set.length c)) (hr : Kd.C (Kd.int .i64) W A set.length set) (hc : set.length ≤ c) :
    Calls Try.prog 65 (#[.int .i64 x] ++ #[.pointer (some ⟨bs, 0, none⟩)]) W fun e w' => e = .returned (.bool (!decide (x ∈ set))) ∧ Below W.heap.size W w' := by
  have K := slices_Contains_int_int.calls (set.length + 1) A c set x _ W hr hc (contains_at set x hr.2.1)
  generalize decide (x ∈ set) = b at K ⊢
  have HK := Aside0.mk K
  clear K hr
  go_enter Try.func65, Try.ntmps65
  go_wp2_with fail
  refine HK.out.mono ?_
  rintro e w1 ⟨rfl, ⟨nd, rfl⟩⟩
  have hb := pw_below_drewN (Below.refl W.heap.size W) nd
  generalize W.drewN nd = w2 at *
  go_wp2
  go_ret
  exact ⟨rfl, hb⟩
theorem rows_C (W : World) (b : Nat) (ls : List (List Int)) (vs : List Value) (hl : vs.length = ls.length) (hn : ls.length ≤ 1000) (h : ∀ (i : Nat) (u : Value), vs[i]? = some u → W.cell? ⟨b, i, none⟩ = some u)
    (hk : ∀ (i : Nat) (l : List Int) (u : Value), ls[i]? = some l → vs[i]? = some u → ∃ (A : Option Addr) (c : Nat), u = Value.slice A l.length c ∧ l.length ≤ c ∧ Kd.C (Kd.int .i64) W A l.length l) : Kd.C (Kd.slice 22 (Kd.int .i64)) W (some ⟨b, 0, none⟩) ls.length ls := by
  refine ⟨rfl, by omega, fun _ => ⟨_, rfl, fun i l hi => ?_⟩⟩
  have hil : i < ls.length := by
    rcases Nat.lt_or_ge i ls.length with q | q
    · exact q
    · rw [List.getElem?_eq_none q] at hi; exact absurd hi (by simp)
  have hv : vs[i]? = some (vs[i]'(by omega)) := List.getElem?_eq_getElem _
  obtain ⟨A, c, e1, e2, e3⟩ := hk i l _ hi hv
  refine ⟨[vs[i]'(by omega)], rfl, ⟨A, c, by rw [e1], e2, e3⟩, fun j u hu => ?_⟩
  match j, hu with
  | 0, hu =>
    obtain rfl := Option.some.inj hu
    have := h i _ hv
    rw [show (Kd.slice 22 (Kd.int .i64)).sz = 1 from rfl, Nat.mul_one, Nat.add_zero, add_plain]
    exact this
  | j + 1, hu => exact absurd hu (by simp)
/-- the walk through a trap -/
def ctL (own : List Int) (mv : List (List Int)) (goal trap : List Int) : List Int → Option Int
  | [] => some 0
  | i :: l => if 0 ≤ i ∧ i < own.length ∧ i < mv.length then (if i ∈ goal ∨ forB own mv i (fun k => !decide (k ∈ trap)) = true then some 7 else ctL own mv goal trap l) else none
def lure_CheckTrap.f (k : Nat) (l0_0 : List Int) (l0_1 : List (List Int)) (l1 : List Int) (l2 : List Int) : Option Int := (lure_examine.f k l0_0 l0_1 [l1, l2]).bind fun e => if e = 0 then ctL l0_0 l0_1 l1 l2 l2 else some e
set_option maxHeartbeats 8000000 in
set_option maxRecDepth 100000 in
theorem lure_CheckTrap.calls (k : Nat) (A0_0 : Option Addr) (c0_0 : Nat) (l0_0 : List Int) (A0_1 : Option Addr) (c0_1 : Nat) (l0_1 : List (List Int)) (A1 : Option Addr) (c1 : Nat) (l1 : List Int) (A2 : Option Addr) (c2 : Nat) (l2 : List Int) (r : Int) (w : World) (hr0_0 : Kd.C (Kd.int .i64) w A0_0 l0_0.length l0_0) (hc0_0 : l0_0.length ≤ c0_0) (hr0_1 : Kd.C (Kd.slice 22 (Kd.int .i64)) w A0_1 l0_1.length l0_1) (hc0_1 : l0_1.length ≤ c0_1) (hr1 : Kd.C (Kd.int .i64) w A1 l1.length l1) (hc1 : l1.length ≤ c1) (hr2 : Kd.C (Kd.int .i64) w A2 l2.length l2) (hc2 : l2.length ≤ c2) (h : lure_CheckTrap.f k l0_0 l0_1 l1 l2 = some r) :
    Calls Try.prog 30 #[.agg #[.slice A0_0 l0_0.length c0_0, .slice A0_1 l0_1.length c0_1], .slice A1 l1.length c1, .slice A2 l2.length c2] w fun e w' => e = .returned (.int .i64 r) ∧ Below w.heap.size w w' := by
  have hu := Try.underlying25
  obtain ⟨e0, A1', h⟩ := Option.bind_eq_some_iff.mp h
  obtain ⟨q1, q2, q3⟩ := alloc3_cells w #[.slice A0_0 l0_0.length c0_0, .slice A0_1 l0_1.length c0_1] #[.slice A2 l2.length c2] #[.slice A1 l1.length c1, .slice A2 l2.length c2] 25 22 22
  obtain ⟨p1, p2⟩ := alloc2_cells w #[.slice A0_0 l0_0.length c0_0, .slice A0_1 l0_1.length c0_1] #[.slice A2 l2.length c2] 25 22
  have p10 := p1 0
  have p11 := p1 1
  have p20 := p2 0
  have q20 := q2 0
  have hb1 : Below w.heap.size w (((w.alloc (.cells #[.slice A0_0 l0_0.length c0_0, .slice A0_1 l0_1.length c0_1] 25)).alloc (.cells #[.slice A2 l2.length c2] 22)).alloc (.cells #[.slice A1 l1.length c1, .slice A2 l2.length c2] 22)) := below_alloc (below_alloc (below_alloc (Below.refl _ w) _) _) _
  have K := lure_examine.calls k A0_0 c0_0 l0_0 A0_1 c0_1 l0_1 (some ⟨w.heap.size + 1 + 1, 0, none⟩) 2 [l1, l2] e0 _ (Kd.C_below hr0_0 hb1) hc0_0 (Kd.C_below hr0_1 hb1) hc0_1 (rows_C _ _ [l1, l2] [.slice A1 l1.length c1, .slice A2 l2.length c2] rfl (by simp) (fun i u hu => by rw [q3 i]; simpa using hu) (fun i l u hl hu => by
    match i, hl, hu with
    | 0, hl, hu =>
      obtain rfl := Option.some.inj hl
      obtain rfl := Option.some.inj hu
      exact ⟨A1, c1, rfl, hc1, Kd.C_below hr1 hb1⟩
    | 1, hl, hu =>
      obtain rfl := Option.some.inj hl
      obtain rfl := Option.some.inj hu
      exact ⟨A2, c2, rfl, hc2, Kd.C_below hr2 hb1⟩
    | i + 2, hl, hu => exact absurd hl (by simp))) (Nat.le_refl _) A1'
  have HK := Aside0.mk K
  have HB1 := Aside0.mk hb1
  have Q10 := Aside0.mk (q1 0)
  have Q11 := Aside0.mk (q1 1)
  have Q20 := Aside0.mk (q2 0)
  have HR0 := Aside0.mk hr0_0
  have HR1 := Aside0.mk hr0_1
  have HRG := Aside0.mk hr1
  have HRT := Aside0.mk hr2
  have HF := Aside0.mk h
  clear K hb1 q1 q2 q3 p1 p2 h hr0_0 hr0_1 hr1 hr2 A1'
  go_enter Try.func30, Try.ntmps30
  go_wp2_with fail
  refine HK.out.mono ?_
  rintro e w1 ⟨rfl, hb⟩
  have HB2 := Aside0.mk (below_step HB1.out hb)
  have G0 : w1.cell? ⟨w.heap.size, 0, none⟩ = some (.slice A0_0 l0_0.length c0_0) := pw_cell_below hb Q10.out
  have G1 : w1.cell? ⟨w.heap.size, 1, none⟩ = some (.slice A0_1 l0_1.length c0_1) := pw_cell_below hb Q11.out
  have T0 : w1.cell? ⟨w.heap.size + 1, 0, none⟩ = some (.slice A2 l2.length c2) := pw_cell_below hb Q20.out
  clear hb p10 p11 p20 q20 HK
  have HG0 := Aside0.mk G0
  have HG1 := Aside0.mk G1
  have HT0 := Aside0.mk T0
  by_cases he : e0 = 0
  · have HF2 := Aside0.mk ((if_pos he).symm.trans HF.out)
    subst he
    clear HF
    go_wp2_with fail
    go_loopg [20] l2.length (fun gg v20 wr => ∃ j : Nat, v20 = .int .i64 (j : Int) ∧ j ≤ l2.length ∧ l2.length - j ≤ gg ∧ Aside0 (ctL l0_0 l0_1 l1 l2 (l2.drop j) = some r) ∧ Aside0 (Below w1.heap.size w1 wr))
    case atStart => exact ⟨0, rfl, Nat.zero_le _, by omega, HF2, ⟨Below.refl _ _⟩⟩
    case round =>
      obtain ⟨j, rfl, hj, hgg, HE, HB⟩ := hrel
      clear HF2 G0 G1 T0
      have hbw := below_step HB2.out HB.out
      have G0 := pw_cell_below HB.out HG0.out
      have G1 := pw_cell_below HB.out HG1.out
      have T0 := pw_cell_below HB.out HT0.out
      by_cases hlt : j < l2.length
      · have hltz : (j : Int) < (l2.length : Int) := by omega
        have hj0 : (0 : Int) ≤ (j : Int) := by omega
        obtain ⟨ad1, e1, k1⟩ := int_cell (Kd.C_below HRT.out hbw) j hlt
        subst e1
        have HE2 := HE.out
        rw [List.drop_eq_getElem_cons hlt] at HE2
        generalize l2[j] = x at *
        unfold ctL at HE2
        have hw : IntKind.i64.wrap ((j : Int) + 1) = ((j + 1 : Nat) : Int) := by rw [i64_w]; have := (HRT.out).2.1; unfold wrap64; omega
        by_cases ok : 0 ≤ x ∧ x < l0_0.length ∧ x < l0_1.length
        · rw [if_pos ok] at HE2
          have K1 := slices_Contains_int_int.calls (l1.length + 1) A1 c1 l1 x _ wr (Kd.C_below HRG.out hbw) hc1 (contains_at l1 x (HRG.out).2.1)
          have K2 : ∀ W, Below wr.heap.size wr W → _ := fun W hW => forces_calls (fun k => !decide (k ∈ l2)) 65 #[.pointer (some ⟨w.heap.size + 1, 0, none⟩)] (fenters Try.func65 (by kernel_rfl) rfl) l0_0 l0_1 A0_0 A0_1 c0_0 c0_1 x W ok.1 ok.2.1 ok.2.2 (Kd.C_below HR0.out (below_step hbw hW)) hc0_0 (Kd.C_below HR1.out (below_step hbw hW)) hc0_1 (fun k W' _ hW' => trap1_calls (w.heap.size + 1) (some ad1) c2 l2 k W' (pw_cell_below (below_step hW hW') T0) (Kd.C_below HRT.out (below_step hbw (below_step hW hW'))) hc2)
          obtain ⟨b1, hb1⟩ : ∃ b, decide (x ∈ l1) = b := ⟨_, rfl⟩
          obtain ⟨b2, hb2⟩ : ∃ b, (forB l0_0 l0_1 x fun k => !decide (k ∈ l2)) = b := ⟨_, rfl⟩
          rw [hb1] at K1
          rw [hb2] at HE2
          have HE3 := Aside0.mk (show (if b1 = true ∨ b2 = true then some 7 else ctL l0_0 l0_1 l1 l2 (l2.drop (j + 1))) = some r by
            rw [← HE2]
            by_cases m : x ∈ l1
            · rw [decide_eq_true m] at hb1; subst hb1; rw [if_pos (Or.inl rfl), if_pos (Or.inl m)]
            · rw [decide_eq_false m] at hb1; subst hb1
              by_cases q : b2 = true
              · rw [if_pos (Or.inr q), if_pos (Or.inr q)]
              · rw [if_neg (fun z => z.elim (by decide) q), if_neg (fun z => z.elim m q)])
          have HK1 := Aside0.mk K1
          have HK2 := Aside0.mk K2
          have HH2 := Aside0.mk hb2
          have HBW := Aside0.mk hbw
          clear K1 K2 HE HE2 hb1 hb2 hbw ok
          go_wp2_with fail
          refine HK1.out.mono ?_
          rintro e w3 ⟨rfl, ⟨nd, rfl⟩⟩
          have hd := pw_below_drewN (Below.refl wr.heap.size wr) nd
          have HB3 := Aside0.mk (below_step HB.out hd)
          have HBW3 := Aside0.mk (below_step HBW.out hd)
          have HK3 := Aside0.mk (HK2.out _ hd)
          have G0' := pw_cell_below hd G0
          have G1' := pw_cell_below hd G1
          clear HK1 HK2 hd G0 G1 T0 k1 HB HBW
          generalize wr.drewN nd = w4 at *
          cases b1 with
          | true =>
            have HE4 := Aside0.mk ((if_pos (Or.inl rfl)).symm.trans HE3.out)
            clear HE3
            obtain rfl := Option.some.inj HE4.out
            go_wp2
            go_ret
            exact ⟨rfl, HBW3.out⟩
          | false =>
            go_wp2_with fail
            refine HK3.out.mono ?_
            rintro e w5 ⟨rfl, hb5⟩
            have HB5 := Aside0.mk (below_step HB3.out hb5)
            have HBW5 := Aside0.mk (below_step HBW3.out hb5)
            have hh := HH2.out
            rw [hh]
            clear hb5 hh HK3 G0' G1'
            cases b2 with
            | true =>
              have HE4 := Aside0.mk ((if_pos (Or.inr rfl)).symm.trans HE3.out)
              clear HE3
              obtain rfl := Option.some.inj HE4.out
              go_wp2
              go_ret
              exact ⟨rfl, HBW5.out⟩
            | false =>
              have HE4 := Aside0.mk ((if_neg (by decide)).symm.trans HE3.out)
              clear HE3
              go_wp2
              go_roundg (l2.length - (j + 1))
              case measure => omega
              case rel => exact ⟨j + 1, by go_num, by omega, by omega, HE4, HB5⟩
        · rw [if_neg ok] at HE2; exact absurd HE2 (by simp)
      · have hltz : ¬ (j : Int) < (l2.length : Int) := by omega
        have HE2 := HE.out
        rw [List.drop_of_length_le (by omega)] at HE2
        obtain rfl : (0 : Int) = r := Option.some.inj HE2
        have HBW := Aside0.mk hbw
        clear HE HE2 hbw
        go_wp2
        go_ret
        exact ⟨rfl, HBW.out⟩
  · have HF2 := Aside0.mk ((if_neg he).symm.trans HF.out)
    clear HF
    obtain rfl : e0 = r := Option.some.inj HF2.out
    go_wp2
    go_ret
    exact ⟨rfl, HB2.out⟩

end Go.Proofs.Ytnmaonampilmoaa.LW

