/- Of the text BAx9, what the row of TopBook reaches. -/
import Derived.Test.YtfccgfjiplnmfaaDoorZTopBookBAx0
import Derived.Test.YtfccgfjiplnmfaaDoorZTopBookBAx7
namespace Go.Proofs.YtfccgfjiplnmfaaDoor.BA
open Go.RowKit Go.Proofs.YtfccgfjiplnmfaaDoorW.PrintWords Go.Proofs.YtfccgfjiplnmfaaDoorW.PrintLast Go.Proofs.YtfccgfjiplnmfaaDoorW.PrintMore
attribute [local go_sem] max2_int min2_int max_two min_two max_three min_three max_four min_four   -- for this text's walks alone
set_option linter.unusedVariables false
set_option linter.unusedSimpArgs false

def pageB (s : ByteArray) : Bool := decide (1 ≤ s.size ∧ s.size ≤ 60) && !((bytesOf s).any fun c => decide (c < 32) || decide (126 < c))
theorem book_IsPage_lit (x : Int) (w : World) (h0 : 0 ≤ x) (h1 : x ≤ 255) : Calls Tryd.prog 64 #[.int .u8 x] w fun e w' => e = .returned (.bool (decide (x < 32) || decide (126 < x))) ∧ Below w.heap.size w w' := by
  by_cases a : x < 32
  · have ha : decide (x < 32) = true := decide_eq_true a
    go_enter Tryd.func64, Tryd.ntmps64
    go_wp2
    go_ret
    exact ⟨by rw [ha]; rfl, Below.refl _ _⟩
  · have ha : decide (x < 32) = false := decide_eq_false a
    go_enter Tryd.func64, Tryd.ntmps64
    go_wp2
    go_ret
    exact ⟨rfl, Below.refl _ _⟩
theorem bytesOf_range (s : ByteArray) : ∀ x ∈ bytesOf s, 0 ≤ x ∧ x ≤ 255 := by
  intro x hx
  unfold bytesOf at hx
  obtain ⟨b, _, rfl⟩ := List.mem_map.1 hx
  have := b.toNat_lt
  omega
def book_IsPage.f (a0 : ByteArray) : Option (Bool) := some (pageB a0)
set_option maxHeartbeats 4000000 in
set_option maxRecDepth 100000 in
theorem book_IsPage.calls (a0 : ByteArray) (r : Bool) (w : World) (h : book_IsPage.f a0 = some r) :
    Calls Tryd.prog 42 #[.string a0] w fun e w' => e = .returned (.bool r) ∧ Below w.heap.size w w' := by
  obtain rfl : pageB a0 = r := Option.some.inj h
  clear h
  unfold pageB
  by_cases h1 : 1 ≤ a0.size
  · have d1 : decide ((a0.size : Int) ≥ 1) = true := decide_eq_true (by omega)
    have d1' : decide (1 ≤ a0.size) = true := decide_eq_true (by omega)
    by_cases h2 : a0.size ≤ 60
    · have d2 : decide ((a0.size : Int) ≤ 60) = true := decide_eq_true (by omega)
      have d2' : decide (a0.size ≤ 60) = true := decide_eq_true (by omega)
      have kb := fun W => print_bytes (P := Tryd.prog) 9 76 5 Tryd.underlying9 Tryd.underlying76 Tryd.underlying5 a0 W
      have HC := Aside0.mk (fun (W : World) (c : Nat) (hc : (bytesOf a0).length ≤ c) => ContainsFunc_byte 64 #[] (fenters Tryd.func64 (by kernel_rfl) rfl) (fun x => decide (x < 32) || decide (126 < x)) (Lib.bytesWorld W 5 a0) (bytesOf a0)
        (fun x W' hx _ => book_IsPage_lit x W' (bytesOf_range a0 x hx).1 (bytesOf_range a0 x hx).2) (some ⟨W.heap.size, 0, none⟩) c
        (by have := Kd.C_of_reads (enc := Value.int .u8) (d := (0 : Int)) (h1 := fun _ => rfl) (bytes_reads W 5 a0 (by omega)); rw [bytesOf_length]; exact this) hc)
      rw [show decide (1 ≤ a0.size ∧ a0.size ≤ 60) = true from decide_eq_true ⟨h1, h2⟩, Bool.true_and]
      rw [bytesOf_length] at HC
      go_enter Tryd.func42, Tryd.ntmps42
      go_wp2_with fail
      refine (HC.out _ _ ?_).mono ?_
      · exact grownCap_ge _ _ _ _
      rintro e w1 ⟨rfl, hb⟩
      have HB := Aside0.mk (below_then (bytes_below (Below.refl _ w) (Nat.le_refl _) 5 a0) (by rw [Lib.bytesWorld_size]; omega) hb)
      clear hb HC kb
      go_wp2
      go_ret
      exact ⟨rfl, HB.out⟩
    · have d2 : decide ((a0.size : Int) ≤ 60) = false := decide_eq_false (by omega)
      have d2' : decide (a0.size ≤ 60) = false := decide_eq_false (by omega)
      rw [show decide (1 ≤ a0.size ∧ a0.size ≤ 60) = false from decide_eq_false (fun h => h2 h.2), Bool.false_and]
      go_enter Tryd.func42, Tryd.ntmps42
      go_wp2
      go_ret
      exact ⟨rfl, Below.refl _ _⟩
  · have d1 : decide ((a0.size : Int) ≥ 1) = false := decide_eq_false (by omega)
    have d1' : decide (1 ≤ a0.size) = false := decide_eq_false (by omega)
    rw [show decide (1 ≤ a0.size ∧ a0.size ≤ 60) = false from decide_eq_false (fun h => h1 h.1), Bool.false_and]
    go_enter Tryd.func42, Tryd.ntmps42
    go_wp2
    go_ret
    exact ⟨rfl, Below.refl _ _⟩

end Go.Proofs.YtfccgfjiplnmfaaDoor.BA

