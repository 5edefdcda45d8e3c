/- Of the text LEx17, what the row of LureExchanges reaches. -/
import Derived.Test.YtnmaonampilmoaaZLureExchangesLEx0
import Derived.Test.YtnmaonampilmoaaZLureExchangesLEx7
import Derived.Test.YtnmaonampilmoaaZLureExchangesLEx14
import Derived.Test.YtnmaonampilmoaaZLureExchangesLEx15
import Derived.Test.YtnmaonampilmoaaZLureExchangesLEx16
import Derived.Shelf.SlicesE.DeleteFunc
namespace Go.Proofs.Ytnmaonampilmoaa.LE
open Go.RowKit Go.Proofs.YtnmaonampilmoaaW.PrintWords Go.Proofs.YtnmaonampilmoaaW.PrintLast Go.Proofs.YtnmaonampilmoaaW.PrintMore
attribute [local go_sem] max2_int min2_int max_two min_two max_three min_three max_four min_four   -- for this text's walks alone
set_option linter.unusedVariables false
set_option linter.unusedSimpArgs false

open Go.Shelf Go.Lib Go.Sort
set_option maxHeartbeats 4000000 in
set_option maxRecDepth 100000 in
theorem keeps1_calls (b : Nat) (An : Option Addr) (cn : Nat) (nx : List Int) (hcn : nx.length ≤ cn) (W : World) (i : Int) (h0 : W.cell? ⟨b, 0, none⟩ = some (.slice An nx.length cn)) (hr : Kd.C (Kd.int .i64) W An nx.length nx) :
    FnGives Try.prog 85 #[.pointer (some ⟨b, 0, none⟩)] #[.int .i64 i] (.bool (!decide (i ∈ nx))) W := by
  have K := slices_Contains_int_int.calls (nx.length + 1) An cn nx i _ W hr hcn (contains_at nx i hr.2.1)
  generalize decide (i ∈ nx) = t at K ⊢
  have HK := Aside0.mk K
  clear K hr
  show Calls Try.prog 85 #[.int .i64 i, .pointer (some ⟨b, 0, none⟩)] W _
  go_enter Try.func85, Try.ntmps85
  go_wp2_with fail
  refine HK.out.mono ?_
  rintro e w1 ⟨rfl, ⟨nd, rfl⟩⟩
  go_wp2
  go_ret
  exact ⟨rfl, nd, rfl⟩
def keepsF (own : List Int) (mv : List (List Int)) : Nat → List Int → Option (List Int)
  | 0, _ => none
  | k + 1, set => if set.length < 17592186044416 then (lure_before.f k own mv set).bind fun nx => (if (set.filter fun x => decide (x ∈ nx)).length = set.length then some (set.filter fun x => decide (x ∈ nx)) else keepsF own mv k (set.filter fun x => decide (x ∈ nx))) else none
def lure_keeps.f (k : Nat) (l0_0 : List Int) (l0_1 : List (List Int)) (l1 : List Int) : Option (List Int) := keepsF l0_0 l0_1 k l1
set_option maxHeartbeats 8000000 in
set_option maxRecDepth 100000 in
theorem lure_keeps.calls (k : Nat) (A0_0 : Option Addr) (c0_0 : Nat) (l0_0 : List Int) (A0_1 : Option Addr) (c0_1 : Nat) (l0_1 : List (List Int)) (A1 : Option Addr) (c1 : Nat) (l1 : List Int) (r : List Int) (w : World) (hr0_0 : Kd.C (Kd.int .i64) w A0_0 l0_0.length l0_0) (hc0_0 : l0_0.length ≤ c0_0) (hr0_1 : Kd.C (Kd.slice 22 (Kd.int .i64)) w A0_1 l0_1.length l0_1) (hc0_1 : l0_1.length ≤ c0_1) (hr1 : Kd.C (Kd.int .i64) w A1 l1.length l1) (hc1 : l1.length ≤ c1) (h : lure_keeps.f k l0_0 l0_1 l1 = some r) :
    Calls Try.prog 70 #[.agg #[.slice A0_0 l0_0.length c0_0, .slice A0_1 l0_1.length c0_1], .slice A1 l1.length c1] w fun e w' => ∃ v0_ : Value, e = .returned (v0_) ∧ Kd.R (Kd.int .i64) 3 w' w.heap.size (fun _ => True) v0_ r ∧ Below w.heap.size w w' := by
  have hu := Try.underlying25
  have h : keepsF l0_0 l0_1 k l1 = some r := h
  have b1 := below_alloc (Below.refl w.heap.size w) (.cells #[.slice A0_0 l0_0.length c0_0, .slice A0_1 l0_1.length c0_1] 25)
  have BG0 := Aside0.mk (heap_newk w (.cells #[.slice A0_0 l0_0.length c0_0, .slice A0_1 l0_1.length c0_1] 25))
  have HC1 := Aside0.mk (Kd.C_below hr1 b1)
  have HB0 := Aside0.mk b1
  have HR0 := Aside0.mk hr0_0
  have HR1 := Aside0.mk hr0_1
  have HF := Aside0.mk h
  clear b1 h hr0_0 hr0_1 hr1
  go_enter Try.func70, Try.ntmps70
  go_wp2_with fail
  go_loopg [1] k (fun kq v1 wr => ∃ (A : Option Addr) (c : Nat) (set : List Int), v1 = .slice A set.length c ∧ set.length ≤ c ∧ Aside0 (keepsF l0_0 l0_1 kq set = some r) ∧ Aside0 (kq ≤ k) ∧ Aside0 (Kd.C (Kd.int .i64) wr A set.length set) ∧ Aside0 (wr.heap[w.heap.size]? = some (.cells #[.slice A0_0 l0_0.length c0_0, .slice A0_1 l0_1.length c0_1] 25 (0, 0))) ∧ Aside0 (Below w.heap.size w wr))
  case atStart => exact ⟨A1, c1, l1, rfl, hc1, HF, ⟨Nat.le_refl _⟩, HC1, BG0, HB0⟩
  case round =>
    obtain ⟨A, c, set, rfl, hcs, HA, HK1, HC, BG, HB⟩ := hrel
    clear HF HC1 BG0 HB0
    cases gk with
    | zero => exact absurd HA.out (by simp [keepsF])
    | succ k1 =>
      have H := HA.out
      clear HA
      unfold keepsF at H
      by_cases cl : set.length < 17592186044416
      · rw [if_pos cl] at H
        obtain ⟨nx, A2, H⟩ := Option.bind_eq_some_iff.mp H
        have HH := Aside0.mk H
        have CL := Aside0.mk cl
        have KB := Aside0.mk (lure_before.calls k1 A0_0 c0_0 l0_0 A0_1 c0_1 l0_1 A c set nx wr (Kd.C_below HR0.out HB.out) hc0_0 (Kd.C_below HR1.out HB.out) hc0_1 HC.out hcs A2)
        have p0 : wr.cell? ⟨w.heap.size, 0, none⟩ = some (.slice A0_0 l0_0.length c0_0) := (blk_cell BG.out 0).trans rfl
        have p1 : wr.cell? ⟨w.heap.size, 1, none⟩ = some (.slice A0_1 l0_1.length c0_1) := (blk_cell BG.out 1).trans rfl
        clear H A2 cl
        go_wp2_with fail
        refine KB.out.mono ?_
        rintro e w1 ⟨vn, rfl, hn, hb⟩
        obtain ⟨An, cn, rfl, hcn, _⟩ := Kd.R_reads hn
        have b2 := below_alloc (Below.refl w1.heap.size w1) (.cells #[.slice An nx.length cn] 22)
        have HN2 := Aside0.mk (Kd.R_alloc hn (.cells #[.slice An nx.length cn] 22))
        have HC2 := Aside0.mk (Kd.C_below (Kd.C_below HC.out hb) b2)
        have BG2 := Aside0.mk (blk_below (g := w.heap.size) (o := .cells #[.slice A0_0 l0_0.length c0_0, .slice A0_1 l0_1.length c0_1] 25) (blk_below (g := w.heap.size) (o := .cells #[.slice A0_0 l0_0.length c0_0, .slice A0_1 l0_1.length c0_1] 25) BG.out hb) b2)
        have HB2 := Aside0.mk (below_step (below_step HB.out hb) b2)
        have BX := Aside0.mk (show (w1.alloc (.cells #[.slice An nx.length cn] 22)).cell? ⟨w1.heap.size, 0, none⟩ = some (.slice An nx.length cn) from World.cell?_alloc_new ..)
        have LT : Aside0 (w1.heap.size < (w1.alloc (.cells #[.slice An nx.length cn] 22)).heap.size) := ⟨by rw [alloc_size]; omega⟩
        clear hn hb b2 KB BG HB HC p0 p1
        go_wp2_with fail
        generalize w1.alloc (.cells #[.slice An nx.length cn] 22) = w2 at *
        refine (clone_any A c set w2 HC2.out hcs CL.out).mono ?_
        rintro e w3 ⟨v, rfl, hv, hb⟩
        have KS := Aside0.mk (strike_calls 85 w1.heap.size (fenters Try.func85 (by kernel_rfl) rfl) An cn nx (keeps1_calls w1.heap.size An cn nx hcn) hv hb BX.out LT.out HN2.out CL.out)
        clear hv hb BX LT HN2
        go_wp2_with fail
        refine KS.out.mono ?_
        rintro e w4 ⟨vk, rfl, hk, hb⟩
        obtain ⟨Ak, ck, rfl, hck, hkC⟩ := Kd.R_reads hk
        have HK4 := Aside0.mk (Kd.R_lower hk HB2.out.size)
        have HC4 := Aside0.mk hkC
        have BG4 := Aside0.mk (blk_below (g := w.heap.size) (o := .cells #[.slice A0_0 l0_0.length c0_0, .slice A0_1 l0_1.length c0_1] 25) BG2.out hb)
        have HB4 := Aside0.mk (below_step HB2.out hb)
        clear hk hb hkC KS HC2 BG2 HB2
        obtain ⟨kept, hkept⟩ : ∃ kept, (set.filter fun x => decide (x ∈ nx)) = kept := ⟨_, rfl⟩
        rw [hkept] at HK4 HC4 HH hck ⊢
        clear hkept
        by_cases z : kept.length = set.length
        · have y1 : ((kept.length : Int) == (set.length : Int)) = true := by rw [z]; exact beq_self_eq_true _
          have y3 : (kept.length == set.length) = true := by rw [z]; exact beq_self_eq_true _
          have e := (if_pos z).symm.trans HH.out
          obtain rfl := Option.some.inj e
          clear e HH z
          go_wp2
          go_ret
          exact ⟨_, rfl, HK4.out, HB4.out⟩
        · have y1 : ((kept.length : Int) == (set.length : Int)) = false := beq_eq_false_iff_ne.2 (by omega)
          have y3 : (kept.length == set.length) = false := beq_eq_false_iff_ne.2 z
          have HH2 := Aside0.mk ((if_neg z).symm.trans HH.out)
          clear HH z
          go_wp2
          go_roundg k1
          case measure => have := HK1.out; omega
          case rel => exact ⟨Ak, ck, kept, rfl, hck, HH2, ⟨by have := HK1.out; omega⟩, HC4, BG4, HB4⟩
      · rw [if_neg cl] at H; exact absurd H (by simp)

end Go.Proofs.Ytnmaonampilmoaa.LE

