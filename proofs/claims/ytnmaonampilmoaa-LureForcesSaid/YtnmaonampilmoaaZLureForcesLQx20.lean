/- Of the text LQx20, what the row of LureForces reaches. -/
import Derived.Test.YtnmaonampilmoaaZLureForcesLQx0
import Derived.Test.YtnmaonampilmoaaZLureForcesLQx1
import Derived.Test.YtnmaonampilmoaaZLureForcesLQx3
import Derived.Test.YtnmaonampilmoaaZLureForcesLQx7
import Derived.Test.YtnmaonampilmoaaZLureForcesLQx19
namespace Go.Proofs.Ytnmaonampilmoaa.LQ
open Go.RowKit Go.Proofs.YtnmaonampilmoaaW.PrintWords Go.Proofs.YtnmaonampilmoaaW.PrintLast Go.Proofs.YtnmaonampilmoaaW.PrintMore
attribute [local go_sem] max2_int min2_int max_two min_two max_three min_three max_four min_four   -- for this text's walks alone
set_option linter.unusedVariables false
set_option linter.unusedSimpArgs false

/-- where a game goes next -/
def nextP (own : List Int) (mv : List (List Int)) (man ducks : List Int) (i : Int) : Int :=
  if (if rd own i = 0 then rd man i else rd ducks i) ∈ rd_L1 mv i then (if rd own i = 0 then rd man i else rd ducks i) else rd (rd_L1 mv i) 0
def okI (own : List Int) (mv : List (List Int)) (man ducks : List Int) (i : Int) : Prop := 0 ≤ i ∧ i < own.length ∧ i < mv.length ∧ i < man.length ∧ i < ducks.length ∧ (rd own i = 0 ∨ rd own i = 1) ∧ 0 < (rd_L1 mv i).length
instance (own : List Int) (mv : List (List Int)) (man ducks : List Int) (i : Int) : Decidable (okI own mv man ducks i) := by unfold okI; exact inferInstance
def plL (own : List Int) (mv : List (List Int)) (man ducks : List Int) (moves : Int) : Nat → List Int → Int → Option (List Int)
  | 0, _, _ => none
  | k + 1, out, i => if (out.length : Int) ≤ moves then (if okI own mv man ducks i ∧ out.length < 17592186044416 then plL own mv man ducks moves k (out ++ [nextP own mv man ducks i]) (nextP own mv man ducks i) else none) else some out
def lure_Play.f (k : Nat) (l0_0 : List Int) (l0_1 : List (List Int)) (l1 : List Int) (l2 : List Int) (a3 : Int) (a4 : Int) : Option (List Int × Int) := (lure_Validate.f k l0_0 l0_1).bind fun e => if e = 0 then (if l1.length = l0_0.length ∧ l2.length = l0_0.length ∧ (0 ≤ a3 ∧ a3 ≤ (l0_0.length : Int) - 1) ∧ 0 ≤ a4 ∧ a4 ≤ 100 then (plL l0_0 l0_1 l1 l2 a4 k [a3] a3).bind fun o => some (o, 0) else some ([], 1)) else some ([], e)
theorem heap_new (w : World) (o : Obj) : (w.alloc o).heap[w.heap.size]? = some o := by
  show (w.heap.push o)[w.heap.size]? = some o
  exact Array.getElem?_push_size
theorem within_is (a lo hi : Int) : lure_within.f a lo hi = some (decide (lo ≤ a ∧ a ≤ hi)) := by
  unfold lure_within.f
  by_cases h : a ≥ lo
  · rw [if_pos h, decide_eq_decide.2 (show a ≤ hi ↔ lo ≤ a ∧ a ≤ hi from ⟨fun z => ⟨h, z⟩, fun z => z.2⟩)]
  · rw [if_neg h, decide_eq_false (show ¬ (lo ≤ a ∧ a ≤ hi) from fun z => h z.1)]
set_option maxHeartbeats 8000000 in
set_option maxRecDepth 100000 in
theorem lure_Play.calls (k : Nat) (A0_0 : Option Addr) (c0_0 : Nat) (l0_0 : List Int) (A0_1 : Option Addr) (c0_1 : Nat) (l0_1 : List (List Int)) (A1 : Option Addr) (c1 : Nat) (l1 : List Int) (A2 : Option Addr) (c2 : Nat) (l2 : List Int) (a3 : Int) (a4 : Int) (r1 : List Int) (r2 : Int) (w : World) (hr0_0 : Kd.C (Kd.int .i64) w A0_0 l0_0.length l0_0) (hc0_0 : l0_0.length ≤ c0_0) (hr0_1 : Kd.C (Kd.slice 22 (Kd.int .i64)) w A0_1 l0_1.length l0_1) (hc0_1 : l0_1.length ≤ c0_1) (hr1 : Kd.C (Kd.int .i64) w A1 l1.length l1) (hc1 : l1.length ≤ c1) (hr2 : Kd.C (Kd.int .i64) w A2 l2.length l2) (hc2 : l2.length ≤ c2) (h : lure_Play.f k l0_0 l0_1 l1 l2 a3 a4 = some (r1, r2)) :
    Calls Try.prog 35 #[.agg #[.slice A0_0 l0_0.length c0_0, .slice A0_1 l0_1.length c0_1], .slice A1 l1.length c1, .slice A2 l2.length c2, .int .i64 a3, .int .i64 a4] w fun e w' => ∃ v0_ : Value, e = .returned (.tuple #[v0_, .int .i64 r2]) ∧ Kd.R (Kd.int .i64) 3 w' w.heap.size (fun _ => True) v0_ r1 ∧ Below w.heap.size w w' := by
  have hu := Try.underlying25
  obtain ⟨e0, A1', h⟩ := Option.bind_eq_some_iff.mp h
  have b1 := below_alloc (Below.refl w.heap.size w) (.cells #[.slice A0_0 l0_0.length c0_0, .slice A0_1 l0_1.length c0_1] 25)
  have K := lure_Validate.calls k A0_0 c0_0 l0_0 A0_1 c0_1 l0_1 e0 _ (Kd.C_below hr0_0 b1) hc0_0 (Kd.C_below hr0_1 b1) hc0_1 A1'
  have g0 : (w.alloc (.cells #[.slice A0_0 l0_0.length c0_0, .slice A0_1 l0_1.length c0_1] 25)).cell? ⟨w.heap.size, 0, none⟩ = some (.slice A0_0 l0_0.length c0_0) := World.cell?_alloc_new ..
  have g1 : (w.alloc (.cells #[.slice A0_0 l0_0.length c0_0, .slice A0_1 l0_1.length c0_1] 25)).cell? ⟨w.heap.size, 1, none⟩ = some (.slice A0_1 l0_1.length c0_1) := World.cell?_alloc_new ..
  have e1 := alloc_size w (.cells #[.slice A0_0 l0_0.length c0_0, .slice A0_1 l0_1.length c0_1] 25)
  have BG0 := Aside0.mk (heap_new w (.cells #[.slice A0_0 l0_0.length c0_0, .slice A0_1 l0_1.length c0_1] 25))
  have HK := Aside0.mk K
  have HB1 := Aside0.mk b1
  have HE1 := Aside0.mk e1
  have HR0 := Aside0.mk hr0_0
  have HR1 := Aside0.mk hr0_1
  have HRM := Aside0.mk hr1
  have HRD := Aside0.mk hr2
  have HF := Aside0.mk h
  clear K b1 e1 h hr0_0 hr0_1 hr1 hr2 A1'
  go_enter Try.func35, Try.ntmps35
  go_wp2_with fail
  refine HK.out.mono ?_
  rintro e w1 ⟨rfl, hb⟩
  have HB2 := Aside0.mk (below_step HB1.out hb)
  have BG := Aside0.mk (blk_below (g := w.heap.size) (o := .cells #[.slice A0_0 l0_0.length c0_0, .slice A0_1 l0_1.length c0_1] 25) BG0.out hb)
  have LT : Aside0 (w.heap.size < w1.heap.size) := ⟨by have := hb.size; have := HE1.out; omega⟩
  have c0 : w1.cell? ⟨w.heap.size, 0, none⟩ = some (.slice A0_0 l0_0.length c0_0) := (blk_cell BG.out 0).trans rfl
  have c1' : w1.cell? ⟨w.heap.size, 1, none⟩ = some (.slice A0_1 l0_1.length c0_1) := (blk_cell BG.out 1).trans rfl
  clear hb g0 g1 HK BG0 HE1 HB1
  by_cases he : e0 = 0
  · have HF2 := Aside0.mk ((if_pos he).symm.trans HF.out)
    subst he
    clear HF
    have fin1 : ¬ (l1.length = l0_0.length ∧ l2.length = l0_0.length ∧ (0 ≤ a3 ∧ a3 ≤ (l0_0.length : Int) - 1) ∧ 0 ≤ a4 ∧ a4 ≤ 100) → r1 = [] ∧ r2 = 1 := fun n => by
      have := (if_neg n).symm.trans HF2.out
      simp only [Option.some.injEq, Prod.mk.injEq] at this
      exact ⟨this.1.symm, this.2.symm⟩
    have hw1 : IntKind.i64.wrap ((l0_0.length : Int) - 1) = (l0_0.length : Int) - 1 := by rw [i64_w]; have := (HR0.out).2.1; unfold wrap64; omega
    have HW := Aside0.mk hw1
    by_cases z1 : l1.length = l0_0.length
    · have y1 : ((l1.length : Int) == (l0_0.length : Int)) = true := by rw [z1]; exact beq_self_eq_true _
      have y2 : ((l1.length : Int) != (l0_0.length : Int)) = false := by rw [z1]; exact bne_self_eq_false _
      have y3 : (l1.length == l0_0.length) = true := by rw [z1]; exact beq_self_eq_true _
      have Z1 := Aside0.mk z1
      clear z1
      by_cases z2 : l2.length = l0_0.length
      · have x1 : ((l2.length : Int) == (l0_0.length : Int)) = true := by rw [z2]; exact beq_self_eq_true _
        have x2 : ((l2.length : Int) != (l0_0.length : Int)) = false := by rw [z2]; exact bne_self_eq_false _
        have x3 : (l2.length == l0_0.length) = true := by rw [z2]; exact beq_self_eq_true _
        have Z2 := Aside0.mk z2
        have FN := Aside0.mk fin1
        clear z2 fin1
        go_wp2_with fail
        first | rw [hw1] | skip
        refine (lure_within.calls a3 0 ((l0_0.length : Int) - 1) _ w1 (within_is ..)).mono ?_
        rintro e w2 ⟨rfl, ⟨nd, rfl⟩⟩
        have hd := pw_below_drewN (Below.refl w1.heap.size w1) nd
        have HB3 := Aside0.mk (below_step HB2.out hd)
        have BG3 := Aside0.mk (blk_below (g := w.heap.size) (o := .cells #[.slice A0_0 l0_0.length c0_0, .slice A0_1 l0_1.length c0_1] 25) BG.out hd)
        have LT3 : Aside0 (w.heap.size < (w1.drewN nd).heap.size) := ⟨by have := hd.size; have := LT.out; omega⟩
        generalize w1.drewN nd = w2 at *
        have c0 : w2.cell? ⟨w.heap.size, 0, none⟩ = some (.slice A0_0 l0_0.length c0_0) := (blk_cell BG3.out 0).trans rfl
        have c1' : w2.cell? ⟨w.heap.size, 1, none⟩ = some (.slice A0_1 l0_1.length c0_1) := (blk_cell BG3.out 1).trans rfl
        clear hd HB2 BG LT
        by_cases z3 : 0 ≤ a3 ∧ a3 ≤ (l0_0.length : Int) - 1
        · rw [decide_eq_true z3]
          have Z3 := Aside0.mk z3
          clear z3
          go_wp2_with fail
          refine (lure_within.calls a4 0 100 _ w2 (within_is ..)).mono ?_
          rintro e w3 ⟨rfl, ⟨nd, rfl⟩⟩
          have hd := pw_below_drewN (Below.refl w2.heap.size w2) nd
          have HB4 := Aside0.mk (below_step HB3.out hd)
          have BG4 := Aside0.mk (blk_below (g := w.heap.size) (o := .cells #[.slice A0_0 l0_0.length c0_0, .slice A0_1 l0_1.length c0_1] 25) BG3.out hd)
          have LT4 : Aside0 (w.heap.size < (w2.drewN nd).heap.size) := ⟨by have := hd.size; have := LT3.out; omega⟩
          generalize w2.drewN nd = w3 at *
          clear hd HB3 BG3 LT3 c0 c1'
          by_cases z4 : 0 ≤ a4 ∧ a4 ≤ 100
          · rw [decide_eq_true z4]
            have HF3 := Aside0.mk ((if_pos ⟨Z1.out, Z2.out, Z3.out, z4⟩).symm.trans HF2.out)
            clear HF2 FN z4
            have b4 := below_alloc (Below.refl w3.heap.size w3) (.cells #[.slice A1 l1.length c1, .slice A2 l2.length c2] 63)
            have e4 := alloc_size w3 (.cells #[.slice A1 l1.length c1, .slice A2 l2.length c2] 63)
            have BP4 := Aside0.mk (heap_new w3 (.cells #[.slice A1 l1.length c1, .slice A2 l2.length c2] 63))
            have BG5 := Aside0.mk (blk_below (g := w.heap.size) (o := .cells #[.slice A0_0 l0_0.length c0_0, .slice A0_1 l0_1.length c0_1] 25) BG4.out b4)
            have HB5 := Aside0.mk (below_step HB4.out b4)
            have HE4 := Aside0.mk e4
            clear b4 e4 BG4 HB4 c0 c1'
            go_wp2_with (first
              | ((with_reducible refine gate_dst (N := 52) rfl ?_); refine Kd.R_lit (Kd.int .i64) _ 3 ?hg (N := 52) ?hd (xs := ([a3] : List Int)) (inner := [.int .i64 a3]) (ok := fun _ => True) (okp := fun _ => True) ?hr ?hp (fun _ hk => hk) trivial (Below.refl _ _) (Nat.le_refl _) (by simp) ?_; (case hd => rfl); (case hg => rfl); (case hr => first | (go_simp; done) | (go_simp; rfl)); (case hp => exact (Reps.one (show Kd.M (Kd.int .i64) _ _ _ a3 [.int .i64 a3] from rfl) (Reps.none _ _))); intro v52 w5 ho hb hg_ hnew_; clear hg_ hnew_; have HO6 := Aside0.mk (Kd.R_mono (ok' := fun k => k ≠ w.heap.size ∧ k ≠ w3.heap.size) (Kd.R_lower (base' := w.heap.size) (Kd.R_tight rfl ho) (by have := HE4.out; have := LT4.out; omega)) (fun k hk => by have := Kd.R_base ho k hk.symm; have := HE4.out; have := LT4.out; exact ⟨by omega, by omega⟩)); have BP6 := Aside0.mk (blk_below (g := w3.heap.size) (o := .cells #[.slice A1 l1.length c1, .slice A2 l2.length c2] 63) BP4.out hb); have BG6 := Aside0.mk (blk_below (g := w.heap.size) (o := .cells #[.slice A0_0 l0_0.length c0_0, .slice A0_1 l0_1.length c0_1] 25) BG5.out hb); have HB6 := Aside0.mk (below_step HB5.out hb); clear ho hb BP4 BG5 HB5))
            obtain ⟨o0, HF4, HF5⟩ := Option.bind_eq_some_iff.mp HF3.out
            simp only [Option.some.injEq, Prod.mk.injEq] at HF5
            obtain ⟨rfl, rfl⟩ := HF5
            have HF6 := Aside0.mk HF4
            have HLT : Aside0 (w.heap.size < w3.heap.size) := ⟨LT4.out⟩
            clear HF4 HF3 LT4 HE4
            go_loopg [15, 16] k (fun kq v15 v16 wr => ∃ (out : List Int) (x : Int), v16 = .int .i64 x ∧ Aside0 (plL l0_0 l0_1 l1 l2 a4 kq out x = some o0) ∧ Aside0 (kq ≤ k) ∧ Aside0 (Kd.R (Kd.int .i64) 3 wr w.heap.size (fun k => k ≠ w.heap.size ∧ k ≠ w3.heap.size) v15 out) ∧ Aside0 (wr.heap[w.heap.size]? = some (.cells #[.slice A0_0 l0_0.length c0_0, .slice A0_1 l0_1.length c0_1] 25 (0, 0))) ∧ Aside0 (wr.heap[w3.heap.size]? = some (.cells #[.slice A1 l1.length c1, .slice A2 l2.length c2] 63 (0, 0))) ∧ Aside0 (Below w.heap.size w wr))
            case atStart => exact ⟨[a3], a3, rfl, HF6, ⟨Nat.le_refl _⟩, HO6, BG6, BP6, HB6⟩
            case round =>
              obtain ⟨out, x, rfl, HA, HK1, HO, BG, BP, HB⟩ := hrel
              clear HF6 HO6 BG6 BP6 HB6
              cases gk with
              | zero => exact absurd HA.out (by simp [plL])
              | succ k1 =>
                have H := HA.out
                clear HA
                unfold plL at H
                obtain ⟨Ao, co, rfl⟩ := Kd.R_slice HO.out
                by_cases cl : (out.length : Int) ≤ a4
                · rw [if_pos cl] at H
                  have cl1 : decide ((out.length : Int) ≤ a4) = true := decide_eq_true cl
                  by_cases ok : okI l0_0 l0_1 l1 l2 x ∧ out.length < 17592186044416
                  · rw [if_pos ok] at H
                    obtain ⟨⟨x0, x1, x2, x3, x4, x5, x6⟩, ol⟩ := ok
                    have HH := Aside0.mk H
                    have OL := Aside0.mk ol
                    have p0 : wr.cell? ⟨w.heap.size, 0, none⟩ = some (.slice A0_0 l0_0.length c0_0) := (blk_cell BG.out 0).trans rfl
                    have p1 : wr.cell? ⟨w.heap.size, 1, none⟩ = some (.slice A0_1 l0_1.length c0_1) := (blk_cell BG.out 1).trans rfl
                    have p2 : wr.cell? ⟨w3.heap.size, 0, none⟩ = some (.slice A1 l1.length c1) := (blk_cell BP.out 0).trans rfl
                    have p3 : wr.cell? ⟨w3.heap.size, 1, none⟩ = some (.slice A2 l2.length c2) := (blk_cell BP.out 1).trans rfl
                    obtain ⟨ad0, e0', k0⟩ := Kd.at_int (Kd.C_below HR0.out HB.out) x x0 x1
                    obtain ⟨ad1, Am, cm, e1', k1', hcm, hrm⟩ := at_L1 (Kd.C_below HR1.out HB.out) x x0 x2
                    obtain ⟨ad2, e2', k2⟩ := Kd.at_int (Kd.C_below HRM.out HB.out) x x0 x3
                    obtain ⟨ad3, e3', k3⟩ := Kd.at_int (Kd.C_below HRD.out HB.out) x x0 x4
                    obtain ⟨ad4, e4', k4⟩ := Kd.at_int hrm 0 (Int.le_refl 0) (by omega)
                    have KC : ∀ y : Int, _ := fun y => slices_Contains_int_int.calls ((rd_L1 l0_1 x).length + 1) Am cm (rd_L1 l0_1 x) y _ wr hrm hcm (contains_at _ y hrm.2.1)
                    subst e0' e1' e2' e3' e4'
                    have HKC := Aside0.mk KC
                    have X5 := Aside0.mk x5
                    have x6' : (0 : Int) < ((rd_L1 l0_1 x).length : Int) := by omega
                    clear H ol cl KC hrm x5
                    rcases X5.out with o | o
                    · rw [o] at k0
                      obtain ⟨y, hy⟩ : ∃ y, rd l1 x = y := ⟨_, rfl⟩
                      rw [hy] at k2
                      have HY := Aside0.mk hy
                      have HOo := Aside0.mk o
                      clear hy o
                      go_wp2_with fail
                      refine (HKC.out y).mono ?_
                      rintro e wq ⟨rfl, ⟨nd, rfl⟩⟩
                      have hd := pw_below_drewN (Below.refl wr.heap.size wr) nd
                      have HB2 := Aside0.mk (below_step HB.out hd)
                      have HO2 := Aside0.mk (Kd.R_drewN HO.out nd)
                      have BG2 := Aside0.mk (blk_below (g := w.heap.size) (o := .cells #[.slice (some ad0) l0_0.length c0_0, .slice (some ad1) l0_1.length c0_1] 25) BG.out hd)
                      have BP2 := Aside0.mk (blk_below (g := w3.heap.size) (o := .cells #[.slice (some ad2) l1.length c1, .slice (some ad3) l2.length c2] 63) BP.out hd)
                      have m4 : (wr.drewN nd).cell? (ad4.add (Int.toNat 0)) = some (.int .i64 (rd (rd_L1 l0_1 x) 0)) := pw_cell_below hd k4
                      have m1 : (wr.drewN nd).cell? (ad1.add x.toNat) = some (.slice (some ad4) (rd_L1 l0_1 x).length cm) := pw_cell_below hd k1'
                      have n0 : (wr.drewN nd).cell? ⟨w.heap.size, 0, none⟩ = some (.slice (some ad0) l0_0.length c0_0) := pw_cell_below hd p0
                      have n1 : (wr.drewN nd).cell? ⟨w.heap.size, 1, none⟩ = some (.slice (some ad1) l0_1.length c0_1) := pw_cell_below hd p1
                      generalize wr.drewN nd = w7 at *
                      clear hd k0 k1' k2 k3 k4 p0 p1 p2 p3 HB HO BG BP HKC
                      by_cases mem : y ∈ rd_L1 l0_1 x
                      · rw [decide_eq_true mem]
                        have HMm := Aside0.mk mem
                        clear mem
                        have HN := Aside0.mk (show plL l0_0 l0_1 l1 l2 a4 k1 (out ++ [y]) y = some o0 by have q := HH.out; rw [show nextP l0_0 l0_1 l1 l2 x = y by unfold nextP; have o := HOo.out; rw [if_pos o, HY.out, if_pos HMm.out]] at q; exact q)
                        clear HH
                        go_wp2_with (first
                          | ((with_reducible refine gate_builtin (b := .append) (xs := #[.tmp 58, .tmp 60]) rfl ?_); at_builtin; refine Kd.R_append (Kd.int .i64) (w0 := w) w.heap.size rfl (.tmp 58) (.tmp 60) 22 3 (.int .i64 0) 8 rfl Try.underlying22 infoI rfl (by decide) (by omega) (.slice Ao out.length co) out y [.int .i64 y] (fun k => k ≠ w.heap.size ∧ k ≠ w3.heap.size) (fun _ => False) rfl rfl ?aP (fun _ hk => hk.elim) ?aF ?aO ?aB ?aS ?aL ?_; (case aP => exact rfl); (case aB => exact HB2.out); (case aF => exact (fun k hk => by have a1 := blk_lt BG2.out; have a2 := blk_lt BP2.out; exact ⟨by omega, by omega⟩)); (case aO => exact HO2.out); (case aS => exact HB2.out.size); (case aL => have := OL.out; omega); intro v9 w9 ho hb hg hat; have HO3 := Aside0.mk ho; have HB3 := Aside0.mk hb; have BG3 := Aside0.mk (blk_grown (g := w.heap.size) (o := .cells #[.slice (some ad0) l0_0.length c0_0, .slice (some ad1) l0_1.length c0_1] 25) BG2.out hg (Kd.R_away HO2.out (fun _ hk => hk.1))); have BP3 := Aside0.mk (blk_grown (g := w3.heap.size) (o := .cells #[.slice (some ad2) l1.length c1, .slice (some ad3) l2.length c2] 63) BP2.out hg (Kd.R_away HO2.out (fun _ hk => hk.2))); clear ho hb hg hat))
                        go_roundg k1
                        case measure => have := HK1.out; omega
                        case rel => exact ⟨out ++ [y], y, rfl, HN, ⟨by have := HK1.out; omega⟩, HO3, BG3, BP3, HB3⟩
                      · rw [decide_eq_false mem]
                        have HMm := Aside0.mk mem
                        clear mem
                        obtain ⟨z, hz⟩ : ∃ z, rd (rd_L1 l0_1 x) 0 = z := ⟨_, rfl⟩
                        rw [hz] at m4
                        have m5 : w7.cell? (ad4.add 0) = some (.int .i64 z) := m4
                        have m6 : w7.cell? ad4 = some (.int .i64 z) := m4
                        have HZ := Aside0.mk hz
                        clear hz
                        have HN := Aside0.mk (show plL l0_0 l0_1 l1 l2 a4 k1 (out ++ [z]) z = some o0 by have q := HH.out; rw [show nextP l0_0 l0_1 l1 l2 x = z by unfold nextP; have o := HOo.out; rw [if_pos o, HY.out, if_neg HMm.out, HZ.out]] at q; exact q)
                        clear HH
                        go_wp2_with (first
                          | ((with_reducible refine gate_builtin (b := .append) (xs := #[.tmp 58, .tmp 60]) rfl ?_); at_builtin; refine Kd.R_append (Kd.int .i64) (w0 := w) w.heap.size rfl (.tmp 58) (.tmp 60) 22 3 (.int .i64 0) 8 rfl Try.underlying22 infoI rfl (by decide) (by omega) (.slice Ao out.length co) out z [.int .i64 z] (fun k => k ≠ w.heap.size ∧ k ≠ w3.heap.size) (fun _ => False) rfl rfl ?aP (fun _ hk => hk.elim) ?aF ?aO ?aB ?aS ?aL ?_; (case aP => exact rfl); (case aB => exact HB2.out); (case aF => exact (fun k hk => by have a1 := blk_lt BG2.out; have a2 := blk_lt BP2.out; exact ⟨by omega, by omega⟩)); (case aO => exact HO2.out); (case aS => exact HB2.out.size); (case aL => have := OL.out; omega); intro v9 w9 ho hb hg hat; have HO3 := Aside0.mk ho; have HB3 := Aside0.mk hb; have BG3 := Aside0.mk (blk_grown (g := w.heap.size) (o := .cells #[.slice (some ad0) l0_0.length c0_0, .slice (some ad1) l0_1.length c0_1] 25) BG2.out hg (Kd.R_away HO2.out (fun _ hk => hk.1))); have BP3 := Aside0.mk (blk_grown (g := w3.heap.size) (o := .cells #[.slice (some ad2) l1.length c1, .slice (some ad3) l2.length c2] 63) BP2.out hg (Kd.R_away HO2.out (fun _ hk => hk.2))); clear ho hb hg hat))
                        go_roundg k1
                        case measure => have := HK1.out; omega
                        case rel => exact ⟨out ++ [z], z, rfl, HN, ⟨by have := HK1.out; omega⟩, HO3, BG3, BP3, HB3⟩
                    · rw [o] at k0
                      obtain ⟨y, hy⟩ : ∃ y, rd l2 x = y := ⟨_, rfl⟩
                      rw [hy] at k3
                      have HY := Aside0.mk hy
                      have HOo := Aside0.mk o
                      clear hy o
                      go_wp2_with fail
                      refine (HKC.out y).mono ?_
                      rintro e wq ⟨rfl, ⟨nd, rfl⟩⟩
                      have hd := pw_below_drewN (Below.refl wr.heap.size wr) nd
                      have HB2 := Aside0.mk (below_step HB.out hd)
                      have HO2 := Aside0.mk (Kd.R_drewN HO.out nd)
                      have BG2 := Aside0.mk (blk_below (g := w.heap.size) (o := .cells #[.slice (some ad0) l0_0.length c0_0, .slice (some ad1) l0_1.length c0_1] 25) BG.out hd)
                      have BP2 := Aside0.mk (blk_below (g := w3.heap.size) (o := .cells #[.slice (some ad2) l1.length c1, .slice (some ad3) l2.length c2] 63) BP.out hd)
                      have m4 : (wr.drewN nd).cell? (ad4.add (Int.toNat 0)) = some (.int .i64 (rd (rd_L1 l0_1 x) 0)) := pw_cell_below hd k4
                      have m1 : (wr.drewN nd).cell? (ad1.add x.toNat) = some (.slice (some ad4) (rd_L1 l0_1 x).length cm) := pw_cell_below hd k1'
                      have n0 : (wr.drewN nd).cell? ⟨w.heap.size, 0, none⟩ = some (.slice (some ad0) l0_0.length c0_0) := pw_cell_below hd p0
                      have n1 : (wr.drewN nd).cell? ⟨w.heap.size, 1, none⟩ = some (.slice (some ad1) l0_1.length c0_1) := pw_cell_below hd p1
                      generalize wr.drewN nd = w7 at *
                      clear hd k0 k1' k2 k3 k4 p0 p1 p2 p3 HB HO BG BP HKC
                      by_cases mem : y ∈ rd_L1 l0_1 x
                      · rw [decide_eq_true mem]
                        have HMm := Aside0.mk mem
                        clear mem
                        have HN := Aside0.mk (show plL l0_0 l0_1 l1 l2 a4 k1 (out ++ [y]) y = some o0 by have q := HH.out; rw [show nextP l0_0 l0_1 l1 l2 x = y by unfold nextP; have o := HOo.out; rw [if_neg (by omega : ¬ rd l0_0 x = 0), HY.out, if_pos HMm.out]] at q; exact q)
                        clear HH
                        go_wp2_with (first
                          | ((with_reducible refine gate_builtin (b := .append) (xs := #[.tmp 58, .tmp 60]) rfl ?_); at_builtin; refine Kd.R_append (Kd.int .i64) (w0 := w) w.heap.size rfl (.tmp 58) (.tmp 60) 22 3 (.int .i64 0) 8 rfl Try.underlying22 infoI rfl (by decide) (by omega) (.slice Ao out.length co) out y [.int .i64 y] (fun k => k ≠ w.heap.size ∧ k ≠ w3.heap.size) (fun _ => False) rfl rfl ?aP (fun _ hk => hk.elim) ?aF ?aO ?aB ?aS ?aL ?_; (case aP => exact rfl); (case aB => exact HB2.out); (case aF => exact (fun k hk => by have a1 := blk_lt BG2.out; have a2 := blk_lt BP2.out; exact ⟨by omega, by omega⟩)); (case aO => exact HO2.out); (case aS => exact HB2.out.size); (case aL => have := OL.out; omega); intro v9 w9 ho hb hg hat; have HO3 := Aside0.mk ho; have HB3 := Aside0.mk hb; have BG3 := Aside0.mk (blk_grown (g := w.heap.size) (o := .cells #[.slice (some ad0) l0_0.length c0_0, .slice (some ad1) l0_1.length c0_1] 25) BG2.out hg (Kd.R_away HO2.out (fun _ hk => hk.1))); have BP3 := Aside0.mk (blk_grown (g := w3.heap.size) (o := .cells #[.slice (some ad2) l1.length c1, .slice (some ad3) l2.length c2] 63) BP2.out hg (Kd.R_away HO2.out (fun _ hk => hk.2))); clear ho hb hg hat))
                        go_roundg k1
                        case measure => have := HK1.out; omega
                        case rel => exact ⟨out ++ [y], y, rfl, HN, ⟨by have := HK1.out; omega⟩, HO3, BG3, BP3, HB3⟩
                      · rw [decide_eq_false mem]
                        have HMm := Aside0.mk mem
                        clear mem
                        obtain ⟨z, hz⟩ : ∃ z, rd (rd_L1 l0_1 x) 0 = z := ⟨_, rfl⟩
                        rw [hz] at m4
                        have m5 : w7.cell? (ad4.add 0) = some (.int .i64 z) := m4
                        have m6 : w7.cell? ad4 = some (.int .i64 z) := m4
                        have HZ := Aside0.mk hz
                        clear hz
                        have HN := Aside0.mk (show plL l0_0 l0_1 l1 l2 a4 k1 (out ++ [z]) z = some o0 by have q := HH.out; rw [show nextP l0_0 l0_1 l1 l2 x = z by unfold nextP; have o := HOo.out; rw [if_neg (by omega : ¬ rd l0_0 x = 0), HY.out, if_neg HMm.out, HZ.out]] at q; exact q)
                        clear HH
                        go_wp2_with (first
                          | ((with_reducible refine gate_builtin (b := .append) (xs := #[.tmp 58, .tmp 60]) rfl ?_); at_builtin; refine Kd.R_append (Kd.int .i64) (w0 := w) w.heap.size rfl (.tmp 58) (.tmp 60) 22 3 (.int .i64 0) 8 rfl Try.underlying22 infoI rfl (by decide) (by omega) (.slice Ao out.length co) out z [.int .i64 z] (fun k => k ≠ w.heap.size ∧ k ≠ w3.heap.size) (fun _ => False) rfl rfl ?aP (fun _ hk => hk.elim) ?aF ?aO ?aB ?aS ?aL ?_; (case aP => exact rfl); (case aB => exact HB2.out); (case aF => exact (fun k hk => by have a1 := blk_lt BG2.out; have a2 := blk_lt BP2.out; exact ⟨by omega, by omega⟩)); (case aO => exact HO2.out); (case aS => exact HB2.out.size); (case aL => have := OL.out; omega); intro v9 w9 ho hb hg hat; have HO3 := Aside0.mk ho; have HB3 := Aside0.mk hb; have BG3 := Aside0.mk (blk_grown (g := w.heap.size) (o := .cells #[.slice (some ad0) l0_0.length c0_0, .slice (some ad1) l0_1.length c0_1] 25) BG2.out hg (Kd.R_away HO2.out (fun _ hk => hk.1))); have BP3 := Aside0.mk (blk_grown (g := w3.heap.size) (o := .cells #[.slice (some ad2) l1.length c1, .slice (some ad3) l2.length c2] 63) BP2.out hg (Kd.R_away HO2.out (fun _ hk => hk.2))); clear ho hb hg hat))
                        go_roundg k1
                        case measure => have := HK1.out; omega
                        case rel => exact ⟨out ++ [z], z, rfl, HN, ⟨by have := HK1.out; omega⟩, HO3, BG3, BP3, HB3⟩
                  · rw [if_neg ok] at H; exact absurd H (by simp)
                · rw [if_neg cl] at H
                  have cl1 : decide ((out.length : Int) ≤ a4) = false := decide_eq_false cl
                  obtain rfl : out = o0 := Option.some.inj H
                  clear cl H
                  go_wp2
                  refine bodyPost_ret (results_list (rs := [.tmp 10, .tmp 11]) rfl (by simp) (.tmp (.tmp .nil))) rfl ?_
                  exact ⟨_, rfl, Kd.R_mono HO.out (fun _ _ => trivial), HB.out⟩
          · rw [decide_eq_false z4]
            obtain ⟨rfl, rfl⟩ := FN.out (fun q => z4 q.2.2.2)
            go_wp2
            refine bodyPost_ret (results_list (rs := [.tmp 10, .tmp 11]) rfl (by simp) (.tmp (.tmp .nil))) rfl ?_
            exact ⟨_, rfl, Kd.R_nil _ _ _ _ _, HB4.out⟩
        · rw [decide_eq_false z3]
          obtain ⟨rfl, rfl⟩ := FN.out (fun q => z3 q.2.2.1)
          go_wp2
          refine bodyPost_ret (results_list (rs := [.tmp 10, .tmp 11]) rfl (by simp) (.tmp (.tmp .nil))) rfl ?_
          exact ⟨_, rfl, Kd.R_nil _ _ _ _ _, HB3.out⟩
      · have x1 : ((l2.length : Int) == (l0_0.length : Int)) = false := beq_eq_false_iff_ne.2 (by omega)
        have x2 : ((l2.length : Int) != (l0_0.length : Int)) = true := bne_iff_ne.2 (by omega)
        have x3 : (l2.length == l0_0.length) = false := beq_eq_false_iff_ne.2 z2
        obtain ⟨rfl, rfl⟩ := fin1 (fun q => z2 q.2.1)
        clear z2 fin1
        go_wp2
        refine bodyPost_ret (results_list (rs := [.tmp 10, .tmp 11]) rfl (by simp) (.tmp (.tmp .nil))) rfl ?_
        exact ⟨_, rfl, Kd.R_nil _ _ _ _ _, HB2.out⟩
    · have x1 : ((l1.length : Int) == (l0_0.length : Int)) = false := beq_eq_false_iff_ne.2 (by omega)
      have x2 : ((l1.length : Int) != (l0_0.length : Int)) = true := bne_iff_ne.2 (by omega)
      have x3 : (l1.length == l0_0.length) = false := beq_eq_false_iff_ne.2 z1
      obtain ⟨rfl, rfl⟩ := fin1 (fun q => z1 q.1)
      clear z1 fin1
      go_wp2
      refine bodyPost_ret (results_list (rs := [.tmp 10, .tmp 11]) rfl (by simp) (.tmp (.tmp .nil))) rfl ?_
      exact ⟨_, rfl, Kd.R_nil _ _ _ _ _, HB2.out⟩
  · have HF2 := Aside0.mk ((if_neg he).symm.trans HF.out)
    clear HF
    have e := HF2.out
    simp only [Option.some.injEq, Prod.mk.injEq] at e
    obtain ⟨rfl, rfl⟩ := e
    go_wp2
    refine bodyPost_ret (results_list (rs := [.tmp 10, .tmp 11]) rfl (by simp) (.tmp (.tmp .nil))) rfl ?_
    exact ⟨_, rfl, Kd.R_nil _ _ _ _ _, HB2.out⟩

end Go.Proofs.Ytnmaonampilmoaa.LQ

