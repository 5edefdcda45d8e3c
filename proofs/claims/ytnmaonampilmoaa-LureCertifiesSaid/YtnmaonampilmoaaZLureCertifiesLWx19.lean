/- Of the text LWx19, what the row of LureCertifies reaches. -/
import Derived.Test.YtnmaonampilmoaaZLureCertifiesLWx0
import Derived.Test.YtnmaonampilmoaaZLureCertifiesLWx1
import Derived.Test.YtnmaonampilmoaaZLureCertifiesLWx5
import Derived.Test.YtnmaonampilmoaaZLureCertifiesLWx7
import Derived.Test.YtnmaonampilmoaaZLureCertifiesLWx12
import Derived.Test.YtnmaonampilmoaaZLureCertifiesLWx14
import Derived.Test.YtnmaonampilmoaaZLureCertifiesLWx15
import Derived.Test.YtnmaonampilmoaaZLureCertifiesLWx18
namespace Go.Proofs.Ytnmaonampilmoaa.LW
open Go.RowKit Go.Proofs.YtnmaonampilmoaaW.PrintWords Go.Proofs.YtnmaonampilmoaaW.PrintLast Go.Proofs.YtnmaonampilmoaaW.PrintMore
attribute [local go_sem] max2_int min2_int max_two min_two max_three min_three max_four min_four   -- for this text's walks alone
set_option linter.unusedVariables false
set_option linter.unusedSimpArgs false

set_option maxHeartbeats 4000000 in
set_option maxRecDepth 100000 in
theorem ranks2_calls (bl br : Nat) (A : Option Addr) (c : Nat) (l : List Int) (rr k : Int) (W : World) (h0 : W.cell? ⟨bl, 0, none⟩ = some (.slice A l.length c)) (h1 : W.cell? ⟨br, 0, none⟩ = some (.int .i64 rr))
    (hr : Kd.C (Kd.int .i64) W A l.length l) (hk0 : 0 ≤ k) (hk1 : k < (l.length : Int)) :
    Calls Try.prog 68 (#[.int .i64 k] ++ #[.pointer (some ⟨bl, 0, none⟩), .pointer (some ⟨br, 0, none⟩)]) W fun e w' => e = .returned (.bool (decide (0 ≤ rd l k ∧ rd l k ≤ wrap64 (rr - 1)))) ∧ Below W.heap.size W w' := by
  obtain ⟨ad, rfl, hc⟩ := Kd.at_int hr k hk0 hk1
  have hb := below_drew1 (Below.refl W.heap.size W)
  have hq : lure_within.f (rd l k) 0 (wrap64 (rr - 1)) = some (decide (0 ≤ rd l k ∧ rd l k ≤ wrap64 (rr - 1))) := by
    unfold lure_within.f
    by_cases h : rd l k ≥ 0
    · rw [if_pos h, decide_eq_decide.2 (show rd l k ≤ wrap64 (rr - 1) ↔ 0 ≤ rd l k ∧ rd l k ≤ wrap64 (rr - 1) from ⟨fun z => ⟨h, z⟩, fun z => z.2⟩)]
    · rw [if_neg h, decide_eq_false (show ¬ (0 ≤ rd l k ∧ rd l k ≤ wrap64 (rr - 1)) from fun z => h z.1)]
  generalize decide (0 ≤ rd l k ∧ rd l k ≤ wrap64 (rr - 1)) = b at *
  obtain ⟨z, hz⟩ : ∃ z, wrap64 (rr - 1) = z := ⟨_, rfl⟩
  have hw : IntKind.i64.wrap (rr - 1) = z := (i64_w _).trans hz
  rw [hz] at hq
  have HQ := Aside0.mk hq
  clear hr hq hz
  go_enter Try.func68, Try.ntmps68
  go_wp2_with fail
  go_still_tail 6, (by kernel_rfl)
  change wpList _ _ _ _ _ W.drew
  generalize W.drew = w2 at *
  go_wp2_with fail
  first | rw [hw] | skip
  refine (lure_within.calls _ _ _ b w2 HQ.out).mono ?_
  rintro e w1 ⟨rfl, ⟨nd, rfl⟩⟩
  have hb2 := pw_below_drewN hb nd
  generalize w2.drewN nd = w3 at *
  go_wp2
  go_ret
  exact ⟨rfl, hb2⟩
/-- the walk through numbers that are to prove wins -/
def crL (own : List Int) (mv : List (List Int)) (goal ranks : List Int) : Nat → List Int → Option Int
  | _, [] => some 0
  | i, r :: l => if i < own.length ∧ i < mv.length ∧ ∀ k ∈ rd_L1 mv (i : Int), 0 ≤ k ∧ k < (ranks.length : Int) then
      (if (r = 0 ∧ ¬ (i : Int) ∈ goal) ∨ (r > 0 ∧ forB own mv (i : Int) (fun k => decide (0 ≤ rd ranks k ∧ rd ranks k ≤ wrap64 (r - 1))) = false) then some 7 else crL own mv goal ranks (i + 1) l) else none
def badR (l : List Int) : Bool := l.any fun r => !decide (-1 ≤ r ∧ r ≤ 16)
def lure_CheckRanks.f (k : Nat) (l0_0 : List Int) (l0_1 : List (List Int)) (l1 : List Int) (l2 : List Int) : Option Int := (lure_examine.f k l0_0 l0_1 [l1]).bind fun e => if e = 0 then (if l2.length = l0_0.length then (if badR l2 = true then some 1 else crL l0_0 l0_1 l1 l2 0 l2) else some 1) else some e
set_option maxHeartbeats 8000000 in
set_option maxRecDepth 100000 in
theorem lure_CheckRanks.calls (k : Nat) (A0_0 : Option Addr) (c0_0 : Nat) (l0_0 : List Int) (A0_1 : Option Addr) (c0_1 : Nat) (l0_1 : List (List Int)) (A1 : Option Addr) (c1 : Nat) (l1 : List Int) (A2 : Option Addr) (c2 : Nat) (l2 : List Int) (r : Int) (w : World) (hr0_0 : Kd.C (Kd.int .i64) w A0_0 l0_0.length l0_0) (hc0_0 : l0_0.length ≤ c0_0) (hr0_1 : Kd.C (Kd.slice 22 (Kd.int .i64)) w A0_1 l0_1.length l0_1) (hc0_1 : l0_1.length ≤ c0_1) (hr1 : Kd.C (Kd.int .i64) w A1 l1.length l1) (hc1 : l1.length ≤ c1) (hr2 : Kd.C (Kd.int .i64) w A2 l2.length l2) (hc2 : l2.length ≤ c2) (h : lure_CheckRanks.f k l0_0 l0_1 l1 l2 = some r) :
    Calls Try.prog 33 #[.agg #[.slice A0_0 l0_0.length c0_0, .slice A0_1 l0_1.length c0_1], .slice A1 l1.length c1, .slice A2 l2.length c2] w fun e w' => e = .returned (.int .i64 r) ∧ Below w.heap.size w w' := by
  have hu := Try.underlying25
  obtain ⟨e0, A1', h⟩ := Option.bind_eq_some_iff.mp h
  obtain ⟨q1, q2, q3⟩ := alloc3_cells w #[.slice A0_0 l0_0.length c0_0, .slice A0_1 l0_1.length c0_1] #[.slice A2 l2.length c2] #[.slice A1 l1.length c1] 25 22 22
  obtain ⟨p1, p2⟩ := alloc2_cells w #[.slice A0_0 l0_0.length c0_0, .slice A0_1 l0_1.length c0_1] #[.slice A2 l2.length c2] 25 22
  have p10 := p1 0
  have p11 := p1 1
  have p20 := p2 0
  have hb1 : Below w.heap.size w (((w.alloc (.cells #[.slice A0_0 l0_0.length c0_0, .slice A0_1 l0_1.length c0_1] 25)).alloc (.cells #[.slice A2 l2.length c2] 22)).alloc (.cells #[.slice A1 l1.length c1] 22)) := below_alloc (below_alloc (below_alloc (Below.refl _ w) _) _) _
  have K := lure_examine.calls k A0_0 c0_0 l0_0 A0_1 c0_1 l0_1 (some ⟨w.heap.size + 1 + 1, 0, none⟩) 1 [l1] e0 _ (Kd.C_below hr0_0 hb1) hc0_0 (Kd.C_below hr0_1 hb1) hc0_1 (rows_C _ _ [l1] [.slice A1 l1.length c1] rfl (by simp) (fun i u hu => by rw [q3 i]; simpa using hu) (fun i l u hl hu => by
    match i, hl, hu with
    | 0, hl, hu =>
      obtain rfl := Option.some.inj hl
      obtain rfl := Option.some.inj hu
      exact ⟨A1, c1, rfl, hc1, Kd.C_below hr1 hb1⟩
    | i + 1, hl, hu => exact absurd hl (by simp))) (Nat.le_refl _) A1'
  have HK := Aside0.mk K
  have HB1 := Aside0.mk hb1
  have Q10 := Aside0.mk (q1 0)
  have Q11 := Aside0.mk (q1 1)
  have Q20 := Aside0.mk (q2 0)
  have HR0 := Aside0.mk hr0_0
  have HR1 := Aside0.mk hr0_1
  have HRG := Aside0.mk hr1
  have HRT := Aside0.mk hr2
  have HF := Aside0.mk h
  clear K hb1 q1 q2 q3 p1 p2 h hr0_0 hr0_1 hr1 hr2 A1'
  go_enter Try.func33, Try.ntmps33
  go_wp2_with fail
  refine HK.out.mono ?_
  rintro e w1 ⟨rfl, hb⟩
  have HB2 := Aside0.mk (below_step HB1.out hb)
  have G0 : w1.cell? ⟨w.heap.size, 0, none⟩ = some (.slice A0_0 l0_0.length c0_0) := pw_cell_below hb Q10.out
  have G1 : w1.cell? ⟨w.heap.size, 1, none⟩ = some (.slice A0_1 l0_1.length c0_1) := pw_cell_below hb Q11.out
  have T0 : w1.cell? ⟨w.heap.size + 1, 0, none⟩ = some (.slice A2 l2.length c2) := pw_cell_below hb Q20.out
  clear hb p10 p11 p20 HK
  have HG0 := Aside0.mk G0
  have HG1 := Aside0.mk G1
  have HT0 := Aside0.mk T0
  by_cases he : e0 = 0
  · have HF2 := Aside0.mk ((if_pos he).symm.trans HF.out)
    subst he
    clear HF
    by_cases hl : l2.length = l0_0.length
    · have HF3 := Aside0.mk ((if_pos hl).symm.trans HF2.out)
      have z0 : ((l2.length : Int) == (l0_0.length : Int)) = true := by rw [hl]; exact beq_self_eq_true _
      have z1 : ((l2.length : Int) != (l0_0.length : Int)) = false := by rw [hl]; exact bne_self_eq_false _
      have z2 : (l2.length == l0_0.length) = true := by rw [hl]; exact beq_self_eq_true _
      have HL := Aside0.mk hl
      have KC := ContainsFunc_int 67 #[] (fenters Try.func67 (by kernel_rfl) rfl) (fun r => !decide (-1 ≤ r ∧ r ≤ 16)) w1 l2 (fun x W _ _ => (lure_CheckRanks_1.calls x (!decide (-1 ≤ x ∧ x ≤ 16)) W (by
        unfold lure_CheckRanks_1.f lure_within.f
        by_cases q : x ≥ -1
        · rw [if_pos q, Option.bind_some, decide_eq_decide.2 (show x ≤ 16 ↔ -1 ≤ x ∧ x ≤ 16 from ⟨fun z => ⟨q, z⟩, fun z => z.2⟩)]
        · rw [if_neg q, Option.bind_some, decide_eq_false (show ¬ (-1 ≤ x ∧ x ≤ 16) from fun z => q z.1)])).mono fun e w' hh => ⟨hh.1, by first | exact hh.2 | exact hh.2.below⟩) A2 c2 (Kd.C_below HRT.out HB2.out) hc2
      obtain ⟨bb, hbb⟩ : ∃ b, badR l2 = b := ⟨_, rfl⟩
      have KC2 := Aside0.mk KC
      have HF4 := HF3.out
      rw [hbb] at HF4
      have HBB := Aside0.mk hbb
      clear KC HF2 HF3 hbb hl
      have HF5 := Aside0.mk HF4
      clear HF4
      go_wp2_with fail
      refine KC2.out.mono ?_
      rintro e w2 ⟨rfl, hb⟩
      have hbb := HBB.out
      unfold badR at hbb
      rw [hbb]
      have HB3 := Aside0.mk (below_step HB2.out hb)
      have G0' := pw_cell_below hb G0
      have G1' := pw_cell_below hb G1
      have T0' := pw_cell_below hb T0
      have HG0' := Aside0.mk G0'
      have HG1' := Aside0.mk G1'
      have HT0' := Aside0.mk T0'
      clear hb hbb G0 G1 T0 HG0 HG1 HT0 KC2
      cases bb with
      | true =>
        have HF6 := Aside0.mk ((if_pos rfl).symm.trans HF5.out)
        obtain rfl := Option.some.inj HF6.out
        clear HF5
        go_wp2
        go_ret
        exact ⟨rfl, HB3.out⟩
      | false =>
        have HF6 := Aside0.mk ((if_neg (by decide)).symm.trans HF5.out)
        clear HF5
        go_wp2_with fail
        go_loopg [29] l2.length (fun gg v29 wr => ∃ j : Nat, v29 = .int .i64 (j : Int) ∧ j ≤ l2.length ∧ l2.length - j ≤ gg ∧ Aside0 (crL l0_0 l0_1 l1 l2 j (l2.drop j) = some r) ∧ Aside0 (Below w2.heap.size w2 wr))
        case atStart => exact ⟨0, rfl, Nat.zero_le _, by omega, HF6, ⟨Below.refl _ _⟩⟩
        case round =>
          obtain ⟨j, rfl, hj, hgg, HE, HB⟩ := hrel
          clear HF6 G0' G1' T0'
          have hbw := below_step HB3.out HB.out
          have G0 := pw_cell_below HB.out HG0'.out
          have G1 := pw_cell_below HB.out HG1'.out
          have T0 := pw_cell_below HB.out HT0'.out
          by_cases hlt : j < l2.length
          · have hltz : (j : Int) < (l2.length : Int) := by omega
            have hj0 : (0 : Int) ≤ (j : Int) := by omega
            obtain ⟨ad1, e1, k1⟩ := int_cell (Kd.C_below HRT.out hbw) j hlt
            subst e1
            have HE2 := HE.out
            rw [List.drop_eq_getElem_cons hlt] at HE2
            generalize l2[j] = x at *
            unfold crL at HE2
            have hw : IntKind.i64.wrap ((j : Int) + 1) = ((j + 1 : Nat) : Int) := by rw [i64_w]; have := (HRT.out).2.1; unfold wrap64; omega
            by_cases ok : j < l0_0.length ∧ j < l0_1.length ∧ ∀ k ∈ rd_L1 l0_1 (j : Int), 0 ≤ k ∧ k < (l2.length : Int)
            · rw [if_pos ok] at HE2
              have b2 := below_alloc (Below.refl _ wr) (.cells #[.int .i64 x] 3)
              have hbx := below_step hbw b2
              have X0 : (wr.alloc (.cells #[.int .i64 x] 3)).cell? ⟨wr.heap.size, 0, none⟩ = some (.int .i64 x) := World.cell?_alloc_new ..
              have G0' := pw_cell_below b2 G0
              have G1' := pw_cell_below b2 G1
              have T0' := pw_cell_below b2 T0
              have K1 := slices_Contains_int_int.calls (l1.length + 1) A1 c1 l1 (j : Int) _ _ (Kd.C_below HRG.out hbx) hc1 (contains_at l1 (j : Int) (HRG.out).2.1)
              have K2 := forces_calls (fun k => decide (0 ≤ rd l2 k ∧ rd l2 k ≤ wrap64 (x - 1))) 68 #[.pointer (some ⟨w.heap.size + 1, 0, none⟩), .pointer (some ⟨wr.heap.size, 0, none⟩)] (fenters Try.func68 (by kernel_rfl) rfl) l0_0 l0_1 A0_0 A0_1 c0_0 c0_1 (j : Int) _ hj0 (by omega) (by omega) (Kd.C_below HR0.out hbx) hc0_0 (Kd.C_below HR1.out hbx) hc0_1 (fun k W' hk hW' => ranks2_calls (w.heap.size + 1) wr.heap.size (some ad1) c2 l2 x k W' (pw_cell_below hW' T0') (pw_cell_below hW' X0) (Kd.C_below HRT.out (below_step hbx hW')) (ok.2.2 k hk).1 (ok.2.2 k hk).2)
              have HB4 := Aside0.mk (below_step HB.out b2)
              have HBX := Aside0.mk hbx
              obtain ⟨b1, hb1⟩ : ∃ b, decide ((j : Int) ∈ l1) = b := ⟨_, rfl⟩
              obtain ⟨b3, hb3⟩ : ∃ b, (forB l0_0 l0_1 (j : Int) fun k => decide (0 ≤ rd l2 k ∧ rd l2 k ≤ wrap64 (x - 1))) = b := ⟨_, rfl⟩
              rw [hb1] at K1
              rw [hb3] at K2 HE2
              have HE3 := Aside0.mk (show (if (x = 0 ∧ b1 = false) ∨ (x > 0 ∧ b3 = false) then some 7 else crL l0_0 l0_1 l1 l2 (j + 1) (l2.drop (j + 1))) = some r by
                rw [← HE2]
                have : (b1 = false) ↔ ¬ (j : Int) ∈ l1 := by rw [← hb1]; exact decide_eq_false_iff_not
                have q : (x = 0 ∧ b1 = false ∨ x > 0 ∧ b3 = false) ↔ (x = 0 ∧ ¬ (j : Int) ∈ l1 ∨ x > 0 ∧ b3 = false) := or_congr (and_congr Iff.rfl this) Iff.rfl
                by_cases y : x = 0 ∧ b1 = false ∨ x > 0 ∧ b3 = false
                · rw [if_pos y, if_pos (q.1 y)]
                · rw [if_neg y, if_neg (fun z => y (q.2 z))])
              have HK1 := Aside0.mk K1
              have HK2 := Aside0.mk K2
              have HTT := Aside0.mk T0'
              clear K1 K2 HE HE2 hb1 hb3 hbw hbx ok b2 T0 T0' HB G0 G1
              by_cases x0 : x = 0
              · subst x0
                have y0 : ((0 : Int) == 0) = true := rfl
                go_wp2_with fail
                refine HK1.out.mono ?_
                rintro e w4 ⟨rfl, ⟨nd, rfl⟩⟩
                have hd := pw_below_drewN (Below.refl (wr.alloc (.cells #[.int .i64 0] 3)).heap.size (wr.alloc (.cells #[.int .i64 0] 3))) nd
                have HB5 := Aside0.mk (below_step HB4.out hd)
                have HBX5 := Aside0.mk (below_step HBX.out hd)
                have X0' := pw_cell_below hd X0
                clear HK1 HK2 hd X0 G0' G1' k1 HB4 HBX HTT
                generalize (wr.alloc (.cells #[.int .i64 0] 3)).drewN nd = w5 at *
                cases b1 with
                | true =>
                  have HE4 := Aside0.mk ((if_neg (fun z => z.elim (fun q => absurd q.2 (by decide)) (fun q => absurd q.1 (by decide)))).symm.trans HE3.out)
                  clear HE3
                  go_wp2
                  go_roundg (l2.length - (j + 1))
                  case measure => omega
                  case rel => exact ⟨j + 1, by go_num, by omega, by omega, HE4, HB5⟩
                | false =>
                  have HE4 := Aside0.mk ((if_pos (Or.inl ⟨by first | rfl | trivial, by first | rfl | trivial⟩)).symm.trans HE3.out)
                  clear HE3
                  obtain rfl := Option.some.inj HE4.out
                  go_wp2
                  go_ret
                  exact ⟨rfl, HBX5.out⟩
              · have y0 : (x == 0) = false := beq_eq_false_iff_ne.2 x0
                by_cases x1 : x > 0
                · have y1 : decide (0 < x) = true := decide_eq_true x1
                  have HX := Aside0.mk x0
                  have HX1 := Aside0.mk x1
                  clear x0 x1
                  go_wp2_with fail
                  refine HK2.out.mono ?_
                  rintro e w5 ⟨rfl, hb5⟩
                  have HB5 := Aside0.mk (below_step HB4.out hb5)
                  have HBX5 := Aside0.mk (below_step HBX.out hb5)
                  clear HK1 HK2 hb5 X0 G0' G1' k1 HB4 HBX HTT
                  cases b3 with
                  | true =>
                    have HE4 := Aside0.mk ((if_neg (fun z => z.elim (fun q => HX.out q.1) (fun q => absurd q.2 (by decide)))).symm.trans HE3.out)
                    clear HE3
                    go_wp2
                    go_roundg (l2.length - (j + 1))
                    case measure => omega
                    case rel => exact ⟨j + 1, by go_num, by omega, by omega, HE4, HB5⟩
                  | false =>
                    have HE4 := Aside0.mk ((if_pos (Or.inr ⟨HX1.out, rfl⟩)).symm.trans HE3.out)
                    clear HE3
                    obtain rfl := Option.some.inj HE4.out
                    go_wp2
                    go_ret
                    exact ⟨rfl, HBX5.out⟩
                · have y1 : decide (0 < x) = false := decide_eq_false x1
                  have HE4 := Aside0.mk ((if_neg (fun z => z.elim (fun q => x0 q.1) (fun q => x1 q.1))).symm.trans HE3.out)
                  clear HE3 HK1 HK2 G0' G1' HTT x0 x1
                  go_wp2
                  go_roundg (l2.length - (j + 1))
                  case measure => omega
                  case rel => exact ⟨j + 1, by go_num, by omega, by omega, HE4, HB4⟩
            · rw [if_neg ok] at HE2; exact absurd HE2 (by simp)
          · have hltz : ¬ (j : Int) < (l2.length : Int) := by omega
            have HE2 := HE.out
            rw [List.drop_of_length_le (by omega)] at HE2
            have HE2 : some (0 : Int) = some r := by unfold crL at HE2; exact HE2
            obtain rfl : (0 : Int) = r := Option.some.inj HE2
            have HBW := Aside0.mk hbw
            clear HE HE2 hbw
            go_wp2
            go_ret
            exact ⟨rfl, HBW.out⟩
    · have HF3 := Aside0.mk ((if_neg hl).symm.trans HF2.out)
      have z0 : ((l2.length : Int) == (l0_0.length : Int)) = false := beq_eq_false_iff_ne.2 (by omega)
      have z1 : ((l2.length : Int) != (l0_0.length : Int)) = true := bne_iff_ne.2 (by omega)
      have z2 : (l2.length == l0_0.length) = false := beq_eq_false_iff_ne.2 hl
      clear HF2 hl
      obtain rfl := Option.some.inj HF3.out
      go_wp2
      go_ret
      exact ⟨rfl, HB2.out⟩
  · have HF2 := Aside0.mk ((if_neg he).symm.trans HF.out)
    clear HF
    obtain rfl : e0 = r := Option.some.inj HF2.out
    go_wp2
    go_ret
    exact ⟨rfl, HB2.out⟩

end Go.Proofs.Ytnmaonampilmoaa.LW

