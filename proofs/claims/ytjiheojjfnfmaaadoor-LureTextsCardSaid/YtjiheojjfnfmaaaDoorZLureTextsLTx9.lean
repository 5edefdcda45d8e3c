/- Of the text LTx9, what the row of LureTexts reaches. -/
import Derived.Test.YtjiheojjfnfmaaaDoorZLureTextsLTx0
import Derived.Test.YtjiheojjfnfmaaaDoorZLureTextsLTx3
import Derived.Test.YtjiheojjfnfmaaaDoorZLureTextsLTx4
import Derived.Test.YtjiheojjfnfmaaaDoorZLureTextsLTx8
namespace Go.Proofs.YtjiheojjfnfmaaaDoor.LT
open Go.RowKit Go.Proofs.YtjiheojjfnfmaaaDoorW.PrintWords Go.Proofs.YtjiheojjfnfmaaaDoorW.PrintLast Go.Proofs.YtjiheojjfnfmaaaDoorW.PrintMore
attribute [local go_sem] max2_int min2_int max_two min_two max_three min_three max_four min_four   -- for this text's walks alone
set_option linter.unusedVariables false
set_option linter.unusedSimpArgs false

/-- how the boxes of ranks stand: w0 is the world at its begin -/
structure RkS (w0 : World) (bo bg g cap : Nat) (A0 A1 : Option Addr) (c0 c1 : Nat) (own : List Int) (mv : List (List Int)) (xs : List Int) (W : World) : Prop where
  base : Below w0.heap.size w0 W
  out_ : W.cell? ⟨bo, 0, none⟩ = some (.slice (some ⟨g, 0, none⟩) own.length cap)
  g0 : W.cell? ⟨bg, 0, none⟩ = some (.slice A0 own.length c0)
  g1 : W.cell? ⟨bg, 1, none⟩ = some (.slice A1 mv.length c1)
  row : Kd.R (Kd.int .i64) 3 W w0.heap.size (fun k => k = g) (.slice (some ⟨g, 0, none⟩) own.length cap) xs
  len : xs.length = own.length
  b1 : w0.heap.size ≤ bg ∧ w0.heap.size ≤ bo ∧ w0.heap.size ≤ g ∧ g ≠ bo ∧ g ≠ bg ∧ bo < W.heap.size ∧ bg < W.heap.size ∧ g < W.heap.size
theorem set_size (w : World) (a : Addr) (v : Value) : (w.setCell a v).heap.size = w.heap.size := by
  first | exact World.size_setCell w a v | exact World.heap_size_setCell w a v | simp
theorem ad_ne {a b i j : Nat} (h : a ≠ b) : (⟨a, i, none⟩ : Addr) ≠ ⟨b, j, none⟩ := fun e => h (by injection e)
theorem rk_below {w0 : World} {bo bg g cap : Nat} {A0 A1 : Option Addr} {c0 c1 : Nat} {own : List Int} {mv : List (List Int)} {xs : List Int} {W W' : World} (h : RkS w0 bo bg g cap A0 A1 c0 c1 own mv xs W) (hb : Below W.heap.size W W') : RkS w0 bo bg g cap A0 A1 c0 c1 own mv xs W' := by
  have z := h.b1
  have s := hb.size
  exact ⟨below_step h.base hb, pw_cell_below hb h.out_, pw_cell_below hb h.g0, pw_cell_below hb h.g1, Kd.R_below h.row hb, h.len, by omega⟩
theorem rk_set {w0 : World} {bo bg g cap : Nat} {A0 A1 : Option Addr} {c0 c1 : Nat} {own : List Int} {mv : List (List Int)} {xs : List Int} {W : World} (h : RkS w0 bo bg g cap A0 A1 c0 c1 own mv xs W) (i : Nat) (hi : i < own.length) (x : Int) : RkS w0 bo bg g cap A0 A1 c0 c1 own mv (xs.set i x) (W.setCell ⟨g, i, none⟩ (.int .i64 x)) := by
  have z := h.b1
  have s := set_size W ⟨g, i, none⟩ (.int .i64 x)
  have o : ∀ b j v, b ≠ g → W.cell? ⟨b, j, none⟩ = some v → (W.setCell ⟨g, i, none⟩ (.int .i64 x)).cell? ⟨b, j, none⟩ = some v := fun b j v hb hv => (World.cell?_setCell_other W _ _ _ (by first | exact ad_ne hb | exact ad_ne (Ne.symm hb))).trans hv
  refine ⟨below_set (g := g) (j := i) (v := .int .i64 x) h.base (by omega), o _ _ _ (by omega) h.out_, o _ _ _ (by omega) h.g0, o _ _ _ (by omega) h.g1, ?_, by rw [List.length_set]; exact h.len, by omega⟩
  have R := Kd.R_putn h.row (i : Int) x
  rw [Int.toNat_natCast] at R
  exact R
set_option maxHeartbeats 4000000 in
set_option maxRecDepth 100000 in
theorem rank11_calls (bk gn ck n : Nat) (xs : List Int) (k : Int) (W : World) (h0 : W.cell? ⟨bk, 0, none⟩ = some (.slice (some ⟨gn, 0, none⟩) n ck)) (hr : Kd.C (Kd.int .i64) W (some ⟨gn, 0, none⟩) n xs) (hk0 : 0 ≤ k) (hk : k < (n : Int)) :
    Calls Tryd.prog 79 (#[.int .i64 k] ++ #[.pointer (some ⟨bk, 0, none⟩)]) W fun e w' => e = .returned (.bool (decide (0 ≤ rd xs k))) ∧ Below W.heap.size W w' := by
  obtain ⟨ad, e, hc⟩ := Kd.at_int hr k hk0 hk
  obtain rfl : (⟨gn, 0, none⟩ : Addr) = ad := by injection e
  rw [add_plain] at hc
  have hb := Below.refl W.heap.size W
  clear hr e
  go_enter Tryd.func79, Tryd.ntmps79
  go_wp2
  go_ret
  exact ⟨rfl, hb⟩
/-- one round of growing -/
def growL (own : List Int) (mv : List (List Int)) (r : Int) (xs : List Int) : Nat → Nat → List Int → Bool → List Int × Bool
  | 0, _, ys, more => (ys, more)
  | d + 1, j, ys, more => if rd xs (j : Int) < 0 ∧ forB own mv (j : Int) (fun k => decide (0 ≤ rd xs k)) = true then growL own mv r xs d (j + 1) (ys.set j r) true else growL own mv r xs d (j + 1) ys more
def growR (own : List Int) (mv : List (List Int)) (r : Int) (xs : List Int) : List Int × Bool := growL own mv r xs own.length 0 xs false
theorem getD_mem {mv : List (List Int)} {j : Nat} (h : j < mv.length) : rd_L1 mv (j : Int) ∈ mv := by
  have : rd_L1 mv (j : Int) = mv[j] := by simp [rd_L1, List.getD_eq_getElem?_getD, List.getElem?_eq_getElem h]
  rw [this]; exact List.getElem_mem h
set_option maxHeartbeats 8000000 in
set_option maxRecDepth 100000 in
theorem grow_calls {w0 : World} {bo bg g cap : Nat} {A0 A1 : Option Addr} {c0 c1 : Nat} {own : List Int} {mv : List (List Int)} {xs : List Int} (W : World) (h : RkS w0 bo bg g cap A0 A1 c0 c1 own mv xs W)
    (hmv : mv.length = own.length) (hm : ∀ l ∈ mv, ∀ k ∈ l, 0 ≤ k ∧ k < (own.length : Int)) (h1 : 1 ≤ own.length) (h16 : own.length ≤ 16)
    (hr0 : Kd.C (Kd.int .i64) w0 A0 own.length own) (hc0 : own.length ≤ c0) (hr1 : Kd.C (Kd.slice 32 (Kd.int .i64)) w0 A1 mv.length mv) (hc1 : mv.length ≤ c1) (r : Int) :
    Calls Tryd.prog 76 (#[.int .i64 r] ++ #[.pointer (some ⟨bo, 0, none⟩), .pointer (some ⟨bg, 0, none⟩)]) W fun e w' => e = .returned (.bool (growR own mv r xs).2) ∧ RkS w0 bo bg g cap A0 A1 c0 c1 own mv (growR own mv r xs).1 w' := by
  have z := h.b1
  have K := clone_calls ⟨g, 0, none⟩ cap xs W (Kd.R_reads' h.row).2.2 (by have := (Kd.R_reads' h.row).2.1; have := h.len; omega) (by have := h.len; omega)
  rw [h.len] at K
  have q1 := h.out_
  have HK := Aside0.mk K
  have HH := Aside0.mk h
  have HM := Aside0.mk hm
  have HMV := Aside0.mk hmv
  have HR0 := Aside0.mk hr0
  have HR1 := Aside0.mk hr1
  have H1 := Aside0.mk h1
  have H16 := Aside0.mk h16
  clear K h hm hmv hr0 hr1 h1 h16
  go_enter Tryd.func76, Tryd.ntmps76
  go_wp2_with fail
  refine HK.out.mono ?_
  rintro e w1 ⟨v, rfl, hv, hb⟩
  obtain ⟨gn, ck, rfl, hk1, hk2, _⟩ := Kd.R_form hv (by have := HH.out.len; have := H1.out; omega)
  have S1 := rk_below HH.out hb
  have e1 := alloc_size w1 (.cells #[.slice (some ⟨gn, 0, none⟩) own.length ck] 32)
  have S2 := Aside0.mk (rk_below S1 (below_alloc (Below.refl _ w1) (.cells #[.slice (some ⟨gn, 0, none⟩) own.length ck] 32)))
  rw [HH.out.len] at hv ⊢
  have V2 := Aside0.mk (Kd.R_alloc (Kd.R_tight rfl hv) (.cells #[.slice (some ⟨gn, 0, none⟩) own.length ck] 32))
  have q2 : ∀ o, (w1.alloc o).cell? ⟨bo, 0, none⟩ = some (.slice (some ⟨g, 0, none⟩) own.length cap) := fun o => (World.cell?_alloc_lt w1 o _ S1.b1.2.2.2.2.2.1).trans S1.out_
  have B2 : (w1.alloc (.cells #[.slice (some ⟨gn, 0, none⟩) own.length ck] 32)).cell? ⟨w1.heap.size, 0, none⟩ = some (.slice (some ⟨gn, 0, none⟩) own.length ck) := World.cell?_alloc_new ..
  have BB := Aside0.mk B2
  have ZZ : Aside0 (W.heap.size ≤ gn ∧ gn < w1.heap.size ∧ W.heap.size ≤ w1.heap.size) := ⟨hk1, hk2, hb.size⟩
  clear hv hb hk1 hk2 S1 HK q1 B2
  go_wp2_with fail
  generalize (w1.alloc (.cells #[.slice (some ⟨gn, 0, none⟩) own.length ck] 32)) = w2 at *
  clear q2
  go_loopg [6, 12] own.length (fun gg v6 v12 wr => ∃ (j : Nat) (ys : List Int) (more : Bool), v6 = .bool more ∧ v12 = .int .i64 (j : Int) ∧ j ≤ own.length ∧ own.length - j ≤ gg ∧ Aside0 (growL own mv r xs (own.length - j) j ys more = growR own mv r xs) ∧ Aside0 (RkS w0 bo bg g cap A0 A1 c0 c1 own mv ys wr) ∧ Aside0 (wr.cell? ⟨w1.heap.size, 0, none⟩ = some (.slice (some ⟨gn, 0, none⟩) own.length ck)) ∧ Aside0 (Kd.R (Kd.int .i64) 3 wr W.heap.size (fun k => some k = (Value.slice (some ⟨gn, 0, none⟩) own.length ck).ownBlock) (.slice (some ⟨gn, 0, none⟩) own.length ck) xs) ∧ Aside0 (w1.heap.size < wr.heap.size))
  case atStart => exact ⟨0, xs, false, rfl, rfl, Nat.zero_le _, by omega, ⟨rfl⟩, S2, BB, V2, ⟨by omega⟩⟩
  case round =>
    obtain ⟨j, ys, more, rfl, rfl, hj, hgg, HG, HS, HBk, HV, HL⟩ := hrel
    clear S2 BB V2
    have hlen := HH.out.len
    have hmv := HMV.out
    by_cases hlt : j < own.length
    · have hltz : (j : Int) < (own.length : Int) := by omega
      have hj0 : (0 : Int) ≤ (j : Int) := by omega
      have s := HS.out
      have qk := HBk.out
      have qo := s.out_
      have qg0 := s.g0
      have qg1 := s.g1
      obtain ⟨ck0, _⟩ := Kd.R_celln (0 : Int) HV.out (j : Int) hj0 hltz
      rw [Int.toNat_natCast] at ck0
      have ck0 : wr.cell? ⟨gn, j, none⟩ = some (.int .i64 (rd xs (j : Int))) := ck0
      have HG2 : Aside0 ((if rd xs (j : Int) < 0 ∧ forB own mv (j : Int) (fun k => decide (0 ≤ rd xs k)) = true then growL own mv r xs (own.length - (j + 1)) (j + 1) (ys.set j r) true else growL own mv r xs (own.length - (j + 1)) (j + 1) ys more) = growR own mv r xs) := ⟨by
        rw [← HG.out, show own.length - j = own.length - (j + 1) + 1 by omega]; rfl⟩
      have hw : IntKind.i64.wrap ((j : Int) + 1) = ((j + 1 : Nat) : Int) := by rw [i64_w]; have := H16.out; unfold wrap64; omega
      clear HG
      by_cases hneg : rd xs (j : Int) < 0
      · have K2 := forces_calls (fun k => decide (0 ≤ rd xs k)) 79 #[.pointer (some ⟨w1.heap.size, 0, none⟩)] (fenters Tryd.func79 (by kernel_rfl) rfl) own mv A0 A1 c0 c1 (j : Int) wr hj0 hltz (by omega) (Kd.C_below HR0.out s.base) hc0 (Kd.C_below HR1.out s.base) hc1 (fun k W' hk hW => by
          have kk := HM.out _ (getD_mem (by omega)) k hk
          have C := (Kd.R_reads' (Kd.R_below HV.out hW)).2.2
          rw [hlen] at C
          exact rank11_calls w1.heap.size gn ck own.length xs k W' (pw_cell_below hW qk) C kk.1 kk.2)
        obtain ⟨b, hb⟩ : ∃ b, (forB own mv (j : Int) fun k => decide (0 ≤ rd xs k)) = b := ⟨_, rfl⟩
        rw [hb] at K2
        have HG3 := Aside0.mk HG2.out
        rw [hb] at HG3
        have HK2 := Aside0.mk K2
        clear K2 HG2 hb s hmv
        go_wp2_with fail
        refine HK2.out.mono ?_
        rintro e w3 ⟨rfl, hb3⟩
        have S3 := rk_below HS.out hb3
        have qo3 := S3.out_
        have HS3 := Aside0.mk S3
        have HBk3 := Aside0.mk (pw_cell_below hb3 HBk.out)
        have HV3 := Aside0.mk (Kd.R_below HV.out hb3)
        have HL3 : Aside0 (w1.heap.size < w3.heap.size) := ⟨by have := hb3.size; have := HL.out; omega⟩
        obtain ⟨cg0, fg0⟩ := Kd.R_celln (0 : Int) S3.row (j : Int) hj0 hltz
        rw [Int.toNat_natCast] at cg0 fg0
        have cg0 : w3.cell? ⟨g, j, none⟩ = some (.int .i64 (rd ys (j : Int))) := cg0
        clear S3 hb3 qo qk qg0 qg1 ck0 HS HBk HV HL HK2
        cases b with
        | true =>
          have HG4 := Aside0.mk ((if_pos ⟨hneg, rfl⟩).symm.trans HG3.out)
          clear HG3
          go_wp2
          go_roundg (own.length - (j + 1))
          case measure => omega
          case rel =>
            refine ⟨j + 1, ys.set j r, true, rfl, by go_num, by omega, by omega, HG4, ⟨rk_set HS3.out j hlt r⟩, ⟨?_⟩, ⟨Kd.R_far (p := ⟨g, j, none⟩) HV3.out (fun k hk => ?_) (.int .i64 r)⟩, ⟨by rw [set_size]; exact HL3.out⟩⟩
            · exact (World.cell?_setCell_other w3 _ _ _ (by have a := ZZ.out; have b := HS3.out.b1; first | exact ad_ne (by omega) | exact ad_ne (Ne.symm (by omega)))).trans HBk3.out
            · have a := ZZ.out
              have hk : k = gn := Option.some.inj hk
              show k ≠ g
              omega
        | false =>
          have HG4 := Aside0.mk ((if_neg (fun q => absurd q.2 (by decide))).symm.trans HG3.out)
          clear HG3
          go_wp2
          go_roundg (own.length - (j + 1))
          case measure => omega
          case rel => exact ⟨j + 1, ys, more, rfl, by go_num, by omega, by omega, HG4, HS3, HBk3, HV3, HL3⟩
      · have HG3 := Aside0.mk HG2.out
        rw [if_neg (fun q => hneg q.1)] at HG3
        clear HG2 s hmv
        go_wp2
        go_roundg (own.length - (j + 1))
        case measure => omega
        case rel => exact ⟨j + 1, ys, more, rfl, by go_num, by omega, by omega, HG3, HS, HBk, HV, HL⟩
    · have hltz : ¬ (j : Int) < (own.length : Int) := by omega
      obtain rfl : j = own.length := by omega
      have e := HG.out
      rw [Nat.sub_self] at e
      have E : growR own mv r xs = (ys, more) := e.symm
      clear e hmv
      have EE := Aside0.mk E
      clear E
      go_wp2
      go_ret
      exact ⟨by rw [EE.out]; rfl, by rw [EE.out]; exact HS.out⟩
/-- goal's places get 0 -/
def setAll (l : List Int) (xs : List Int) : List Int := l.foldl (fun a i => a.set i.toNat 0) xs
/-- rounds of growing, till nothing more is won -/
def rkF (own : List Int) (mv : List (List Int)) : Nat → Int → List Int → Option (List Int)
  | 0, _, _ => none
  | k + 1, r, xs => if (growR own mv r xs).2 = true then rkF own mv k (wrap64 (r + 1)) (growR own mv r xs).1 else some (growR own mv r xs).1
theorem rkF.mono (own : List Int) (mv : List (List Int)) : ∀ (k : Nat) (r : Int) (xs : List Int), LeO (rkF own mv k r xs) (rkF own mv (k + 1) r xs)
  | 0, r, xs => fun _ h => by simp [rkF] at h
  | k + 1, r, xs => by
    have ih := rkF.mono own mv k (wrap64 (r + 1)) (growR own mv r xs).1
    intro s h
    unfold rkF at h ⊢
    by_cases q : (growR own mv r xs).2 = true
    · rw [if_pos q] at h ⊢; exact ih _ h
    · rw [if_neg q] at h ⊢; exact h
/-- the game and the goal are in order -/
def okG (own : List Int) (mv : List (List Int)) (goal : List Int) : Prop := 1 ≤ own.length ∧ own.length ≤ 16 ∧ mv.length = own.length ∧ (∀ l ∈ mv, ∀ k ∈ l, 0 ≤ k ∧ k < (own.length : Int)) ∧ ∀ k ∈ goal, 0 ≤ k ∧ k < (own.length : Int)
instance (own : List Int) (mv : List (List Int)) (goal : List Int) : Decidable (okG own mv goal) := by unfold okG; exact inferInstance
def lure_ranks.f (k : Nat) (l0_0 : List Int) (l0_1 : List (List Int)) (l1 : List Int) : Option (List Int) := if okG l0_0 l0_1 l1 then rkF l0_0 l0_1 k 1 (setAll l1 (List.replicate l0_0.length (-1))) else none
theorem lure_ranks.mono (l0_0 : List Int) (l0_1 : List (List Int)) (l1 : List Int) (k : Nat) : LeO (lure_ranks.f k l0_0 l0_1 l1) (lure_ranks.f (k + 1) l0_0 l0_1 l1) := by
  unfold lure_ranks.f
  exact LeO.ite (rkF.mono _ _ _ _ _) (LeO.refl _)
theorem one_C (W : World) (b : Nat) (x : Int) (h : W.cell? ⟨b, 0, none⟩ = some (.int .i64 x)) : Kd.C (Kd.int .i64) W (some ⟨b, 0, none⟩) 1 [x] :=
  Kd.C_of_reads (enc := Value.int .i64) (d := (0 : Int)) ⟨rfl, by decide, fun _ => ⟨_, rfl, fun j hj => by
    obtain rfl : j = 0 := by omega
    rw [add_plain]; exact h⟩⟩
set_option maxHeartbeats 8000000 in
set_option maxRecDepth 100000 in
theorem lure_ranks.calls (k : Nat) (A0_0 : Option Addr) (c0_0 : Nat) (l0_0 : List Int) (A0_1 : Option Addr) (c0_1 : Nat) (l0_1 : List (List Int)) (A1 : Option Addr) (c1 : Nat) (l1 : List Int) (r : List Int) (w : World) (hr0_0 : Kd.C (Kd.int .i64) w A0_0 l0_0.length l0_0) (hc0_0 : l0_0.length ≤ c0_0) (hr0_1 : Kd.C (Kd.slice 32 (Kd.int .i64)) w A0_1 l0_1.length l0_1) (hc0_1 : l0_1.length ≤ c0_1) (hr1 : Kd.C (Kd.int .i64) w A1 l1.length l1) (hc1 : l1.length ≤ c1) (h : lure_ranks.f k l0_0 l0_1 l1 = some r) :
    Calls Tryd.prog 51 #[.agg #[.slice A0_0 l0_0.length c0_0, .slice A0_1 l0_1.length c0_1], .slice A1 l1.length c1] w fun e w' => ∃ v0_ : Value, e = .returned (v0_) ∧ Kd.R (Kd.int .i64) 3 w' w.heap.size (fun _ => True) v0_ r ∧ Below w.heap.size w w' := by
  have hu := Tryd.underlying35
  unfold lure_ranks.f at h
  by_cases ok : okG l0_0 l0_1 l1
  · rw [if_pos ok] at h
    obtain ⟨h1, h16, hmv, hm, hg⟩ := ok
    obtain ⟨q1, q2⟩ := alloc2_cells w #[.slice A0_0 l0_0.length c0_0, .slice A0_1 l0_1.length c0_1] #[.int .i64 (-1)] 35 3
    have hb1 : Below w.heap.size w ((w.alloc (.cells #[.slice A0_0 l0_0.length c0_0, .slice A0_1 l0_1.length c0_1] 35)).alloc (.cells #[.int .i64 (-1)] 3)) := below_alloc (below_alloc (Below.refl _ w) _) _
    have hs : ((w.alloc (.cells #[.slice A0_0 l0_0.length c0_0, .slice A0_1 l0_1.length c0_1] 35)).alloc (.cells #[.int .i64 (-1)] 3)).heap.size = w.heap.size + 2 := by rw [alloc_size, alloc_size]
    have q10 := q1 0
    have q11 := q1 1
    have K := repeat_calls ⟨w.heap.size + 1, 0, none⟩ 1 (-1) l0_0.length h1 h16 _ (one_C _ _ _ (q2 0)) (Nat.le_refl _)
    have g00 : (w.alloc (.cells #[.slice A0_0 l0_0.length c0_0, .slice A0_1 l0_1.length c0_1] 35)).cell? ⟨w.heap.size, 0, none⟩ = some (.slice A0_0 l0_0.length c0_0) := World.cell?_alloc_new ..
    have HK := Aside0.mk K
    have HB1 := Aside0.mk hb1
    have HS := Aside0.mk hs
    have Q10 := Aside0.mk q10
    have Q11 := Aside0.mk q11
    have HR0 := Aside0.mk hr0_0
    have HR1 := Aside0.mk hr0_1
    have HRG := Aside0.mk hr1
    have HM := Aside0.mk hm
    have HMV := Aside0.mk hmv
    have HG := Aside0.mk hg
    have H1 := Aside0.mk h1
    have H16 := Aside0.mk h16
    have HF := Aside0.mk h
    clear K hb1 hs q1 q2 hr0_0 hr0_1 hr1 hm hmv hg h1 h16 h
    go_enter Tryd.func51, Tryd.ntmps51
    go_wp2_with fail
    refine HK.out.mono ?_
    rintro e w1 ⟨v, rfl, hv, hb⟩
    obtain ⟨g, cap, rfl, hk1, hk2, _⟩ := Kd.R_form hv (by rw [List.length_replicate]; exact H1.out)
    rw [List.length_replicate] at hv ⊢
    have S0 : RkS w w1.heap.size w.heap.size g cap A0_0 A0_1 c0_0 c0_1 l0_0 l0_1 (List.replicate l0_0.length (-1)) (w1.alloc (.cells #[.slice (some ⟨g, 0, none⟩) l0_0.length cap] 32)) := by
      have hb' := HB1.out
      have z := HS.out
      have sz := hb.size
      have e1 := alloc_size w1 (.cells #[.slice (some ⟨g, 0, none⟩) l0_0.length cap] 32)
      have b2 := below_alloc (Below.refl _ w1) (.cells #[.slice (some ⟨g, 0, none⟩) l0_0.length cap] 32)
      refine ⟨below_step (below_step hb' hb) b2, World.cell?_alloc_new .., pw_cell_below b2 (pw_cell_below hb Q10.out), pw_cell_below b2 (pw_cell_below hb Q11.out), ?_, by rw [List.length_replicate], by omega⟩
      exact Kd.R_alloc (Kd.R_mono (Kd.R_lower (Kd.R_tight rfl hv) (by omega)) (fun k hk => Option.some.inj hk)) _
    have S1 := Aside0.mk S0
    clear hv hb hk1 hk2 S0 q10 q11 g00 HK
    go_wp2_with fail
    generalize (w1.alloc (.cells #[.slice (some ⟨g, 0, none⟩) l0_0.length cap] 32)) = w2 at *
    go_loopg [17] l1.length (fun gg v17 wr => ∃ (j : Nat) (ys : List Int), v17 = .int .i64 (j : Int) ∧ j ≤ l1.length ∧ l1.length - j ≤ gg ∧ Aside0 (setAll (l1.drop j) ys = setAll l1 (List.replicate l0_0.length (-1))) ∧ Aside0 (RkS w w1.heap.size w.heap.size g cap A0_0 A0_1 c0_0 c0_1 l0_0 l0_1 ys wr))
    case atStart => exact ⟨0, _, rfl, Nat.zero_le _, by omega, ⟨rfl⟩, S1⟩
    case round =>
      obtain ⟨j, ys, rfl, hj, hgg, HE, HS2⟩ := hrel
      clear S1
      by_cases hlt : j < l1.length
      · have hltz : (j : Int) < (l1.length : Int) := by omega
        have hj0 : (0 : Int) ≤ (j : Int) := by omega
        have s := HS2.out
        have qo := s.out_
        obtain ⟨ad1, e1, k1⟩ := int_cell (Kd.C_below HRG.out s.base) j hlt
        subst e1
        obtain ⟨hx0, hx1⟩ := HG.out _ (List.getElem_mem hlt)
        have HEx := Aside0.mk (show setAll (l1.drop (j + 1)) (ys.set (l1[j]).toNat 0) = setAll l1 (List.replicate l0_0.length (-1)) by rw [← HE.out, List.drop_eq_getElem_cons hlt]; rfl)
        clear HE
        generalize l1[j] = x at *
        obtain ⟨y, rfl⟩ := Int.eq_ofNat_of_zero_le hx0
        rw [Int.toNat_natCast] at HEx
        obtain ⟨cg0, fg0⟩ := Kd.R_celln (0 : Int) s.row (y : Int) hx0 hx1
        rw [Int.toNat_natCast] at cg0 fg0
        have cg0 : wr.cell? ⟨g, y, none⟩ = some (.int .i64 (rd ys (y : Int))) := cg0
        have hw : IntKind.i64.wrap ((j : Int) + 1) = ((j + 1 : Nat) : Int) := by rw [i64_w]; have := (HRG.out).2.1; unfold wrap64; omega
        clear s
        go_wp2
        go_roundg (l1.length - (j + 1))
        case measure => omega
        case rel => exact ⟨j + 1, ys.set y 0, by go_num, by omega, by omega, HEx, ⟨rk_set HS2.out y (by omega) 0⟩⟩
      · have hltz : ¬ (j : Int) < (l1.length : Int) := by omega
        obtain rfl : j = l1.length := by omega
        have HE2 := Aside0.mk (show ys = setAll l1 (List.replicate l0_0.length (-1)) by rw [← HE.out, List.drop_length]; rfl)
        clear HE
        have eg := fenters Tryd.func76 (by kernel_rfl) rfl
        have HF2 := HF.out
        rw [← HE2.out] at HF2
        have HF3 := Aside0.mk HF2
        clear HF2 HE2 HF
        go_wp2_with fail
        go_loopg [9] k (fun kq v9 wr => ∃ (rr : Int) (zs : List Int), v9 = .int .i64 rr ∧ Aside0 (rkF l0_0 l0_1 kq rr zs = some r) ∧ Aside0 (kq ≤ k) ∧ Aside0 (RkS w w1.heap.size w.heap.size g cap A0_0 A0_1 c0_0 c0_1 l0_0 l0_1 zs wr))
        case atStart => exact ⟨1, _, rfl, HF3, ⟨Nat.le_refl _⟩, HS2⟩
        case round =>
          obtain ⟨rr, zs, rfl, HA, HK1, HS3⟩ := hrel
          clear HS2 HF3
          cases gk with
          | zero => exact absurd HA.out (by simp [rkF])
          | succ k1 =>
            have H := HA.out
            clear HA
            unfold rkF at H
            have K := grow_calls _ HS3.out HMV.out HM.out H1.out H16.out HR0.out hc0_0 HR1.out hc0_1 rr
            obtain ⟨ys2, more, hq⟩ : ∃ ys2 more, growR l0_0 l0_1 rr zs = (ys2, more) := ⟨_, _, rfl⟩
            rw [hq] at H K
            have HK2 := Aside0.mk K
            have HH := Aside0.mk H
            clear K H hq
            go_wp2_with fail
            refine HK2.out.mono ?_
            rintro e w3 ⟨rfl, hs3⟩
            have HS4 := Aside0.mk hs3
            have qo := hs3.out_
            clear hs3 HK2
            cases more with
            | true =>
              have HH2 := Aside0.mk ((if_pos rfl).symm.trans HH.out)
              clear HH
              go_wp2
              go_roundg k1
              case measure => have := HK1.out; omega
              case rel => exact ⟨wrap64 (rr + 1), ys2, by first | rfl | rw [i64_w], HH2, ⟨by have := HK1.out; omega⟩, HS4⟩
            | false =>
              have HH2 := Aside0.mk ((if_neg (by decide)).symm.trans HH.out)
              clear HH
              obtain rfl : ys2 = r := Option.some.inj HH2.out
              go_wp2
              go_ret
              exact ⟨_, rfl, Kd.R_mono HS4.out.row (fun _ _ => trivial), HS4.out.base⟩
  · rw [if_neg ok] at h; exact absurd h (by simp)

end Go.Proofs.YtjiheojjfnfmaaaDoor.LT

