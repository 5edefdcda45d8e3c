/- Of the text BAx11, what the row of TopBook reaches. -/
import Derived.Test.YtfccgfjiplnmfaaDoorZTopBookBAx0
import Derived.Test.YtfccgfjiplnmfaaDoorZTopBookBAx9
namespace Go.Proofs.YtfccgfjiplnmfaaDoor.BA
open Go.RowKit Go.Proofs.YtfccgfjiplnmfaaDoorW.PrintWords Go.Proofs.YtfccgfjiplnmfaaDoorW.PrintLast Go.Proofs.YtfccgfjiplnmfaaDoorW.PrintMore
attribute [local go_sem] max2_int min2_int max_two min_two max_three min_three max_four min_four   -- for this text's walks alone
set_option linter.unusedVariables false
set_option linter.unusedSimpArgs false

def leafV (s : ByteArray) : Int := (bytesOf s).foldl (fun x c => (wrap64 (wrap64 (wrap64 (x * 257) + c) + 1)).tmod 2147483647) 1
theorem leafV_snoc (s : ByteArray) (k : Nat) (h : k < (bytesOf s).length) : ((bytesOf s).take (k + 1)).foldl (fun x c => (wrap64 (wrap64 (wrap64 (x * 257) + c) + 1)).tmod 2147483647) 1 =
    (wrap64 (wrap64 (wrap64 (((bytesOf s).take k).foldl (fun x c => (wrap64 (wrap64 (wrap64 (x * 257) + c) + 1)).tmod 2147483647) 1 * 257) + (bytesOf s)[k]) + 1)).tmod 2147483647 := by
  rw [List.take_succ_eq_append_getElem h, List.foldl_append]; rfl
def book_leaf.f (a0 : ByteArray) : Option (Int) := if a0.size ≤ 1000000 then some (leafV a0) else none
set_option maxHeartbeats 4000000 in
set_option maxRecDepth 100000 in
theorem book_leaf.calls (a0 : ByteArray) (r : Int) (w : World) (h : book_leaf.f a0 = some r) :
    Calls Tryd.prog 44 #[.string a0] w fun e w' => e = .returned (.int .i64 r) ∧ Below w.heap.size w w' := by
  unfold book_leaf.f at h
  by_cases hs : a0.size ≤ 1000000
  · rw [if_pos hs] at h
    obtain rfl : leafV a0 = r := Option.some.inj h
    clear h
    have hl := bytesOf_length a0
    have HL := Aside0.mk hl
    clear hl
    have kb := fun W => print_bytes (P := Tryd.prog) 9 76 5 Tryd.underlying9 Tryd.underlying76 Tryd.underlying5 a0 W
    have HR := Aside0.mk (Kd.C_of_reads (enc := Value.int .u8) (d := (0 : Int)) (h1 := fun _ => rfl) (bytes_reads w 5 a0 (by omega)))
    have HB := Aside0.mk (bytes_below (Below.refl _ w) (Nat.le_refl _) 5 a0)
    go_enter Tryd.func44, Tryd.ntmps44
    go_wp2
    clear kb
    go_loop [3, 9] (fun x i => ∃ k : Nat, k ≤ a0.size ∧ i = .int .i64 k ∧ x = .int .i64 (((bytesOf a0).take k).foldl (fun x c => (wrap64 (wrap64 (wrap64 (x * 257) + c) + 1)).tmod 2147483647) 1)) (fun _ i => a0.size - (intOf i).toNat)
    case atStart => exact ⟨0, Nat.zero_le _, rfl, rfl⟩
    case round =>
      obtain ⟨k, hk, rfl, rfl⟩ := hrel
      by_cases hlt : k < a0.size
      · have hlt2 : k < (bytesOf a0).length := by rw [HL.out]; exact hlt
        have HS := Aside0.mk (leafV_snoc a0 k hlt2)
        obtain ⟨ad, ha, h1⟩ := int_cell (k := .u8) (A := some ⟨w.heap.size, 0, none⟩) (l := bytesOf a0) (by rw [HL.out]; exact HR.out) k hlt2
        obtain rfl := Option.some.inj ha
        rw [add_plain] at h1
        have hr := bytesOf_range a0 _ (List.getElem_mem hlt2)
        generalize (bytesOf a0)[k] = c at *
        generalize ((bytesOf a0).take k).foldl (fun x c => (wrap64 (wrap64 (wrap64 (x * 257) + c) + 1)).tmod 2147483647) 1 = v at *
        clear ha
        go_wp2
        go_round
        case rel => exact ⟨k + 1, by omega, by go_num, by rw [HS.out]⟩
        case measure => simp [intOf]; omega
      · go_wp2
        go_ret
        refine ⟨?_, HB.out⟩
        unfold leafV
        rw [List.take_of_length_le (by rw [HL.out]; omega)]
        rfl
  · rw [if_neg hs] at h; cases h

end Go.Proofs.YtfccgfjiplnmfaaDoor.BA

