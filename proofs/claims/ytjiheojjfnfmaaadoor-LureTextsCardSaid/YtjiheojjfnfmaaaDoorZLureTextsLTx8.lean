/- Of the text LTx8, what the row of LureTexts reaches. -/
import Derived.Test.YtjiheojjfnfmaaaDoorZLureTextsLTx0
import Derived.Test.YtjiheojjfnfmaaaDoorZLureTextsLTx6
import Derived.Laws.EntriesVeiled
import Derived.StillTailTactics
namespace Go.Proofs.YtjiheojjfnfmaaaDoor.LT
open Go.RowKit Go.Proofs.YtjiheojjfnfmaaaDoorW.PrintWords Go.Proofs.YtjiheojjfnfmaaaDoorW.PrintLast Go.Proofs.YtjiheojjfnfmaaaDoorW.PrintMore
attribute [local go_sem] max2_int min2_int max_two min_two max_three min_three max_four min_four   -- for this text's walks alone
set_option linter.unusedVariables false
set_option linter.unusedSimpArgs false

/-- from a place, the man makes sure that p holds next -/
def forB (own : List Int) (mv : List (List Int)) (i : Int) (p : Int → Bool) : Bool := if rd own i = 0 then (rd_L1 mv i).any p else !((rd_L1 mv i).any fun k => !p k)
theorem alloc_size (w : World) (o : Obj) : (w.alloc o).heap.size = w.heap.size + 1 := by first | exact World.size_alloc w o | exact World.heap_size_alloc w o | simp
theorem alloc2_cells (w : World) (c1 c2 : Array Value) (t1 t2 : TypeId) : (∀ i, ((w.alloc (.cells c1 t1)).alloc (.cells c2 t2)).cell? ⟨w.heap.size, i, none⟩ = c1[i]?) ∧ (∀ i, ((w.alloc (.cells c1 t1)).alloc (.cells c2 t2)).cell? ⟨w.heap.size + 1, i, none⟩ = c2[i]?) := by
  have e := alloc_size w (.cells c1 t1)
  refine ⟨fun i => ?_, fun i => ?_⟩
  · rw [World.cell?_alloc_lt (w.alloc (.cells c1 t1)) (.cells c2 t2) ⟨w.heap.size, i, none⟩ (by simp only; omega)]
    exact World.cell?_alloc_new ..
  · rw [← e]; exact World.cell?_alloc_new ..
set_option maxHeartbeats 4000000 in
set_option maxRecDepth 100000 in
theorem forces1_calls (bh g : Nat) (lb : Array Value) (eg : ∀ args w, (callFunc g args).run Tryd.prog w = .ok (.enter g args) w) (p : Int → Bool) (k : Int) (W : World) (h0 : W.cell? ⟨bh, 0, none⟩ = some (.func (.func g) #[] lb))
    (hk : Calls Tryd.prog g (#[.int .i64 k] ++ lb) W fun e w' => e = .returned (.bool (p k)) ∧ Below W.heap.size W w') :
    Calls Tryd.prog 100 (#[.int .i64 k] ++ #[.pointer (some ⟨bh, 0, none⟩)]) W fun e w' => e = .returned (.bool (!p k)) ∧ Below W.heap.size W w' := by
  generalize p k = b at hk ⊢
  go_enter Tryd.func100, Tryd.ntmps100
  go_wp2_with fail
  refine hk.mono ?_
  rintro e w1 ⟨rfl, hb⟩
  go_wp2
  go_ret
  exact ⟨rfl, hb⟩
set_option maxHeartbeats 4000000 in
set_option maxRecDepth 100000 in
theorem forces_calls (p : Int → Bool) (g : Nat) (lb : Array Value) (eg : ∀ args w, (callFunc g args).run Tryd.prog w = .ok (.enter g args) w) (own : List Int) (mv : List (List Int)) (A0 A1 : Option Addr) (c0 c1 : Nat) (i : Int) (w : World) (hi0 : 0 ≤ i) (hi : i < own.length) (hm : i < mv.length)
    (hr0 : Kd.C (Kd.int .i64) w A0 own.length own) (hc0 : own.length ≤ c0) (hr1 : Kd.C (Kd.slice 32 (Kd.int .i64)) w A1 mv.length mv) (hc1 : mv.length ≤ c1)
    (hp : ∀ (k : Int) (W : World), k ∈ rd_L1 mv i → Below w.heap.size w W → Calls Tryd.prog g (#[.int .i64 k] ++ lb) W fun e w' => e = .returned (.bool (p k)) ∧ Below W.heap.size W w') :
    Calls Tryd.prog 78 #[.agg #[.slice A0 own.length c0, .slice A1 mv.length c1], .int .i64 i, .func (.func g) #[] lb] w fun e w' => e = .returned (.bool (forB own mv i p)) ∧ Below w.heap.size w w' := by
  have hu := Tryd.underlying35
  obtain ⟨q1, q2⟩ := alloc2_cells w #[.slice A0 own.length c0, .slice A1 mv.length c1] #[.func (.func g) #[] lb] 35 110
  have hb1 : Below w.heap.size w ((w.alloc (.cells #[.slice A0 own.length c0, .slice A1 mv.length c1] 35)).alloc (.cells #[.func (.func g) #[] lb] 110)) := below_alloc (below_alloc (Below.refl _ w) _) _
  obtain ⟨ad0, e0, k0⟩ := int_cell (Kd.C_below hr0 hb1) i.toNat (by omega)
  obtain ⟨ad1, A2, c2, e1, k1, hc2, hr2⟩ := at_L1 (Kd.C_below hr1 hb1) i hi0 hm
  have hrd : rd own i = own[i.toNat]'(by omega) := by simp [rd, List.getD_eq_getElem?_getD, List.getElem?_eq_getElem (show i.toNat < own.length by omega)]
  rw [← hrd] at k0
  have q10 := q1 0
  have q11 := q1 1
  have q20 := q2 0
  subst e0 e1
  have HB1 := Aside0.mk hb1
  have hs : ((w.alloc (.cells #[.slice (some ad0) own.length c0, .slice (some ad1) mv.length c1] 35)).alloc (.cells #[.func (.func g) #[] lb] 110)).heap.size = w.heap.size + 2 := by rw [alloc_size, alloc_size]
  unfold forB
  by_cases hz : rd own i = 0
  · rw [if_pos hz]
    obtain ⟨bb, hbb⟩ : ∃ bb, (rd_L1 mv i).any p = bb := ⟨_, rfl⟩
    rw [hbb]
    clear q1 q2 hb1 hrd
    go_enter Tryd.func78, Tryd.ntmps78
    go_wp2_with fail
    generalize ((w.alloc (.cells #[.slice (some ad0) own.length c0, .slice (some ad1) mv.length c1] 35)).alloc (.cells #[.func (.func g) #[] lb] 110)) = w2 at *
    go_still_tail 6, (by kernel_rfl)
    change wpList _ _ _ _ _ w2.drew
    have hb3 : Below w.heap.size w w2.drew := below_drew1 HB1.out
    have K1 := ContainsFunc_int g lb eg p w2.drew (rd_L1 mv i) (fun x W hx hW => hp x W hx (below_step hb3 hW)) A2 c2 (Kd.C_drew hr2) hc2
    rw [hbb] at K1
    clear hbb
    have HK1 := Aside0.mk K1
    have HB3 := Aside0.mk hb3
    clear K1 hb3 hr2 hr0 hr1 hp
    generalize w2.drew = w3 at *
    go_wp2_with fail
    refine HK1.out.mono ?_
    rintro e w1 ⟨rfl, hb⟩
    have hb2 := below_step HB3.out hb
    go_wp2
    go_ret
    exact ⟨rfl, hb2⟩
  · rw [if_neg hz]
    obtain ⟨bb, hbb⟩ : ∃ bb, ((rd_L1 mv i).any fun k => !p k) = bb := ⟨_, rfl⟩
    rw [hbb]
    have K2 := ContainsFunc_int 100 #[.pointer (some ⟨w.heap.size + 1, 0, none⟩)] (fenters Tryd.func100 (by kernel_rfl) rfl) (fun k => !p k) _ (rd_L1 mv i) (fun x W hx hW => forces1_calls (w.heap.size + 1) g lb eg p x W (pw_cell_below hW (q2 0)) (hp x W hx (below_step hb1 hW))) A2 c2 hr2 hc2
    rw [hbb] at K2
    clear hbb
    have HK2 := Aside0.mk K2
    clear K2 hb1 q1 q2 hp hr0 hr1 hr2 hrd hs
    go_enter Tryd.func78, Tryd.ntmps78
    go_wp2_with fail
    refine HK2.out.mono ?_
    rintro e w1 ⟨rfl, hb⟩
    have hb2 := below_step HB1.out hb
    go_wp2
    go_ret
    exact ⟨rfl, hb2⟩

end Go.Proofs.YtjiheojjfnfmaaaDoor.LT

