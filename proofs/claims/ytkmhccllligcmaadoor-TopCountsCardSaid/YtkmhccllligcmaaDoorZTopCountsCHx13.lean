/- Of the text CHx13, what the row of TopCounts reaches. -/
import Derived.Test.YtkmhccllligcmaaDoorZTopCountsCHx0
import Derived.Test.YtkmhccllligcmaaDoorZTopCountsCHx6
import Derived.Test.YtkmhccllligcmaaDoorZTopCountsCHx10
namespace Go.Proofs.YtkmhccllligcmaaDoor.CH
open Go.RowKit Go.Proofs.YtkmhccllligcmaaDoorW.PrintWords Go.Proofs.YtkmhccllligcmaaDoorW.PrintLast Go.Proofs.YtkmhccllligcmaaDoorW.PrintMore
attribute [local go_sem] max2_int min2_int max_two min_two max_three min_three max_four min_four   -- for this text's walks alone
set_option linter.unusedVariables false
set_option linter.unusedSimpArgs false

theorem heap_newk (w : World) (o : Obj) : (w.alloc o).heap[w.heap.size]? = some o := by
  show (w.heap.push o)[w.heap.size]? = some o
  exact Array.getElem?_push_size

theorem blk_any {w : World} {g : Nat} {o o2 : Obj} (h : w.heap[g]? = some o) : (w.alloc o2).heap[g]? = some o := by
  have hl := (Array.getElem?_eq_some_iff.1 h).1
  show (w.heap.push o2)[g]? = some o
  rw [Array.getElem?_push_lt hl, ← h, Array.getElem?_eq_getElem hl]
theorem two_boxes (w : World) (o1 o2 : Obj) : ((w.alloc o1).alloc o2).heap[w.heap.size]? = some o1 ∧ ((w.alloc o1).alloc o2).heap[w.heap.size + 1]? = some o2 ∧ Below w.heap.size w ((w.alloc o1).alloc o2) := by
  have e1 : (w.alloc o1).heap.size = w.heap.size + 1 := by first | exact World.size_alloc w o1 | exact World.heap_size_alloc w o1 | simp
  have h2 := heap_newk (w.alloc o1) o2
  rw [e1] at h2
  exact ⟨blk_any (heap_newk w o1), h2, below_alloc (below_alloc (Below.refl _ _) _) _⟩
/-- what total adds up -/
def totO (v : ByteArray → Option Int) : List ByteArray → Int → Option Int
  | [], s => some s
  | x :: l, s => (v x).bind fun y => totO v l (wrap64 (s + y))
theorem totO_at {v : ByteArray → Option Int} {l : List ByteArray} {k : Nat} {s r : Int} (h : k < l.length) (t : totO v (l.drop k) s = some r) : ∃ y, v (rdOf ByteArray.empty l (k : Int)) = some y ∧ totO v (l.drop (k + 1)) (wrap64 (s + y)) = some r := by
  rw [List.drop_eq_getElem_cons h] at t
  have e : rdOf ByteArray.empty l (k : Int) = l[k] := by simp [rdOf, List.getD_eq_getElem?_getD, List.getElem?_eq_getElem h]
  rw [e]
  exact Option.bind_eq_some_iff.1 t
set_option maxHeartbeats 4000000 in
set_option maxRecDepth 100000 in
theorem count_total_str.calls (g : Nat) (lb : Array Value) (v : ByteArray → Option Int) (eg : ∀ args w, (callFunc g args).run Tryd.prog w = .ok (.enter g args) w)
    (A0 : Option Addr) (c0 : Nat) (l0 : List ByteArray) (r : Int) (w : World) (hp : ∀ (x : ByteArray) (y : Int) (W : World), Below w.heap.size w W → v x = some y → Calls Tryd.prog g (#[.string x] ++ lb) W fun e w' => e = .returned (.int .i64 y) ∧ Below W.heap.size W w')
    (hr0 : Kd.C Kd.string w A0 l0.length l0) (hc0 : l0.length ≤ c0) (h : totO v l0 0 = some r) :
    Calls Tryd.prog 56 #[.slice A0 l0.length c0, .func (.func g) #[] lb] w fun e w' => e = .returned (.int .i64 r) ∧ Below w.heap.size w w' := by
  have hm := hr0.2.1
  have HR := Aside0.mk hr0
  have HT := Aside0.mk h
  clear hr0 h
  go_enter Tryd.func56, Tryd.ntmps56
  go_wp2
  go_loopw [5, 10] (fun s i wr => ∃ (k : Nat) (z : Int), k ≤ l0.length ∧ i = .int .i64 k ∧ s = .int .i64 z ∧ Aside0 (totO v (l0.drop k) z = some r) ∧ Aside0 (Below w.heap.size w wr)) (fun _ i _ => l0.length - (intOf i).toNat)
  case atStart => exact ⟨0, 0, Nat.zero_le _, rfl, rfl, HT, ⟨Below.refl _ _⟩⟩
  case round =>
    clear HT
    obtain ⟨k, z, hk, rfl, rfl, HT, HB⟩ := hrel
    by_cases hlt : k < l0.length
    · obtain ⟨y, hv, ht⟩ := totO_at hlt HT.out
      obtain ⟨ad, ha, h1⟩ := Kd.at_string (Kd.C_below HR.out HB.out) (k : Int) (by omega) (by omega)
      rw [Int.toNat_natCast] at h1
      have hcall := fun W hb => hp _ y W hb hv
      have HT2 := Aside0.mk ht
      clear hp hv ht HT
      generalize rdOf ByteArray.empty l0 (k : Int) = x at *
      subst ha
      go_wp2_with fail
      refine (hcall _ ?_).mono ?_
      · exact HB.out
      rintro e w1 ⟨rfl, hb⟩
      have HB2 := Aside0.mk hb
      clear hb hcall h1
      go_wp2
      go_roundw
      case rel =>
        exact ⟨k + 1, wrap64 (z + y), by omega, by go_num, by first | rfl | simp [IntKind.wrap_i64, wrap64], HT2, ⟨below_step HB.out HB2.out⟩⟩
      case measure => simp [intOf]; omega
    · have e : totO v (l0.drop k) z = some z := by rw [List.drop_of_length_le (by omega)]; rfl
      have hz : z = r := Option.some.inj (e.symm.trans HT.out)
      subst hz
      clear HT
      go_wp2
      go_ret
      exact ⟨rfl, HB.out⟩
/-- one or none -/
def oneIf (q : ByteArray → Int → Option Bool) (day : Int) (s : ByteArray) : Option Int := (q s day).bind fun b => some (if b = true then 1 else 0)
set_option maxHeartbeats 4000000 in
set_option maxRecDepth 100000 in
theorem count_number1.calls (g : Nat) (q : ByteArray → Int → Option Bool) (eg : ∀ args w, (callFunc g args).run Tryd.prog w = .ok (.enter g args) w)
    (hq : ∀ (x : ByteArray) (d : Int) (b : Bool) (W : World), q x d = some b → Calls Tryd.prog g #[.string x, .int .i64 d] W fun e w' => e = .returned (.bool b) ∧ Below W.heap.size W w')
    (gi gd : Nat) (day : Int) (x : ByteArray) (y : Int) (w : World) (hi : w.heap[gi]? = some (.cells #[.func (.func g) #[] #[]] 59 (0, 0))) (hd : w.heap[gd]? = some (.cells #[.int .i64 day] 3 (0, 0))) (h : oneIf q day x = some y) :
    Calls Tryd.prog 57 #[.string x, .pointer (some ⟨gi, 0, none⟩), .pointer (some ⟨gd, 0, none⟩)] w fun e w' => e = .returned (.int .i64 y) ∧ Below w.heap.size w w' := by
  obtain ⟨b, hb, hy⟩ := Option.bind_eq_some_iff.1 h
  have h1 : w.cell? ⟨gi, 0, none⟩ = some (.func (.func g) #[] #[]) := (blk_cell hi 0).trans rfl
  have h2 : w.cell? ⟨gd, 0, none⟩ = some (.int .i64 day) := (blk_cell hd 0).trans rfl
  have hcall := hq x day b w hb
  clear hq hb h hi hd
  have HY := Aside0.mk (Option.some.inj hy)
  clear hy
  go_enter Tryd.func57, Tryd.ntmps57
  go_wp2_with fail
  refine hcall.mono ?_
  rintro e w1 ⟨rfl, hb⟩
  have HB := Aside0.mk hb
  clear hcall hb h1 h2
  cases b with
  | true =>
    go_wp2
    go_ret
    exact ⟨by rw [← HY.out]; rfl, HB.out⟩
  | false =>
    go_wp2
    go_ret
    exact ⟨by rw [← HY.out]; rfl, HB.out⟩
/-- how many -/
def numF (q : ByteArray → Int → Option Bool) (l : List ByteArray) (day : Int) : Option Int := totO (oneIf q day) l 0
set_option maxHeartbeats 4000000 in
set_option maxRecDepth 100000 in
theorem count_number_any.calls (g : Nat) (q : ByteArray → Int → Option Bool) (eg : ∀ args w, (callFunc g args).run Tryd.prog w = .ok (.enter g args) w)
    (hq : ∀ (x : ByteArray) (d : Int) (b : Bool) (W : World), q x d = some b → Calls Tryd.prog g #[.string x, .int .i64 d] W fun e w' => e = .returned (.bool b) ∧ Below W.heap.size W w')
    (A0 : Option Addr) (c0 : Nat) (l0 : List ByteArray) (day : Int) (r : Int) (w : World) (hr0 : Kd.C Kd.string w A0 l0.length l0) (hc0 : l0.length ≤ c0) (h : numF q l0 day = some r) :
    Calls Tryd.prog 35 #[.slice A0 l0.length c0, .int .i64 day, .func (.func g) #[] #[]] w fun e w' => e = .returned (.int .i64 r) ∧ Below w.heap.size w w' := by
  have HR := Aside0.mk hr0
  have HC := Aside0.mk hc0
  have HQ := Aside0.mk hq
  have HT := Aside0.mk h
  clear hr0 hc0 hq h
  go_enter Tryd.func35, Tryd.ntmps35
  go_upto_region 1 with fail
  obtain ⟨BD, BI, BB⟩ := two_boxes w (.cells #[.int .i64 day] 3) (.cells #[.func (.func g) #[] #[]] 59)
  generalize (w.alloc (.cells #[.int .i64 day] 3)).alloc (.cells #[.func (.func g) #[] #[]] 59) = w2 at BD BI BB ⊢
  have hlt := (Array.getElem?_eq_some_iff.1 BI).1
  have ed := fenters Tryd.func57 (by kernel_rfl) rfl
  go_wp2_with fail
  refine (count_total_str.calls 57 #[.pointer (some ⟨w.heap.size + 1, 0, none⟩), .pointer (some ⟨w.heap.size, 0, none⟩)] (oneIf q day) ed A0 c0 l0 r w2 (fun x y W hb hy => ?_) (Kd.C_below HR.out BB) HC.out HT.out).mono ?_
  · exact count_number1.calls g q eg HQ.out _ _ day x y W (by rw [hb.block _ hlt]; exact BI) (by rw [hb.block _ (by omega)]; exact BD) hy
  rintro e w3 ⟨rfl, hb⟩
  have HB := Aside0.mk (below_step BB hb)
  clear hb BD BI BB
  go_wp2
  go_ret
  exact ⟨rfl, HB.out⟩
def number_on.f (l0 : List ByteArray) (a1 : Int) : Option (Int) := numF count_bird_on.f l0 a1
theorem number_on.calls (A0 : Option Addr) (c0 : Nat) (l0 : List ByteArray) (a1 : Int) (r : Int) (w : World) (hr0 : Kd.C Kd.string w A0 l0.length l0) (hc0 : l0.length ≤ c0) (h : number_on.f l0 a1 = some r) :
    Calls Tryd.prog 35 #[.slice A0 l0.length c0, .int .i64 a1, .func (.func 37) #[] #[]] w fun e w' => e = .returned (.int .i64 r) ∧ Below w.heap.size w w' :=
  count_number_any.calls 37 count_bird_on.f (fenters Tryd.func37 (by kernel_rfl) rfl) (fun x d b W hb => (count_bird_on.calls x d b W hb).mono fun _ _ q => ⟨q.1, q.2.below⟩) A0 c0 l0 a1 r w hr0 hc0 h
def number_ahead.f (l0 : List ByteArray) (a1 : Int) : Option (Int) := numF count_bird_ahead.f l0 a1
theorem number_ahead.calls (A0 : Option Addr) (c0 : Nat) (l0 : List ByteArray) (a1 : Int) (r : Int) (w : World) (hr0 : Kd.C Kd.string w A0 l0.length l0) (hc0 : l0.length ≤ c0) (h : number_ahead.f l0 a1 = some r) :
    Calls Tryd.prog 35 #[.slice A0 l0.length c0, .int .i64 a1, .func (.func 36) #[] #[]] w fun e w' => e = .returned (.int .i64 r) ∧ Below w.heap.size w w' :=
  count_number_any.calls 36 count_bird_ahead.f (fenters Tryd.func36 (by kernel_rfl) rfl) (fun x d b W hb => (count_bird_ahead.calls x d b W hb).mono fun _ _ q => ⟨q.1, q.2.below⟩) A0 c0 l0 a1 r w hr0 hc0 h
def number_c1.f (l0 : List ByteArray) (a1 : Int) : Option (Int) := numF count_Catches_1.f l0 a1
theorem number_c1.calls (A0 : Option Addr) (c0 : Nat) (l0 : List ByteArray) (a1 : Int) (r : Int) (w : World) (hr0 : Kd.C Kd.string w A0 l0.length l0) (hc0 : l0.length ≤ c0) (h : number_c1.f l0 a1 = some r) :
    Calls Tryd.prog 35 #[.slice A0 l0.length c0, .int .i64 a1, .func (.func 38) #[] #[]] w fun e w' => e = .returned (.int .i64 r) ∧ Below w.heap.size w w' :=
  count_number_any.calls 38 count_Catches_1.f (fenters Tryd.func38 (by kernel_rfl) rfl) (fun x d b W hb => (count_Catches_1.calls x d b W hb).mono fun _ _ q => ⟨q.1, q.2.below⟩) A0 c0 l0 a1 r w hr0 hc0 h

end Go.Proofs.YtkmhccllligcmaaDoor.CH

