/- Of the text Opens, what the row of BookMerges reaches. -/
import Derived.Deep.Slices
import Derived.ChangeSame
import Derived.ChangeArms
import Derived.Test.YtfccgfjiplnmfaaDoorZBookMergesWWords
namespace Go.Proofs.YtfccgfjiplnmfaaDoor.Opens
open Go.ChangeShapes Go.WideShapes Go.Deep Go.Proofs.YtfccgfjiplnmfaaDoorW.PrintWords

/-- whatever is read at type t is of kind d, and ok -/
def Opens (P : Program) (t : TypeId) {α : Type} (d : Kd α) (ok : α → Prop) : Prop :=
  ∀ {H : Type} (enc : TypeId × Value → H) (W : World) (fuel : Nat) (cs : List Value) (x : DataW H × List MemPlace),
    DataW.trod enc P W 0 (fun _ => true) true fuel t cs = some x → ∃ a, d.K W a cs ∧ ok a
variable {P : Program}
theorem o_string {t : TypeId} (ht : P.underlying t = some .string) : Opens P t Kd.string (fun s => s.size ≤ 9223372036854775807) := by
  intro H enc W fuel cs x h
  obtain ⟨n, rfl, _, hs⟩ := DataW.trod_string ht h
  exact ⟨n, rfl, by simpa only [maxLen] using hs⟩
/-- an argument's value -/
theorem o_arg {t : TypeId} {α : Type} {d : Kd α} {ok : α → Prop} (h : Opens P t d ok) {H : Type} {enc : TypeId × Value → H} {W : World} {v : Value} {dd : DataW H} {p : List MemPlace} (ht : DataW.Trod enc P W 0 (fun _ => true) true t v dd p) : ∃ a, d.K W a v.cells.toList ∧ ok a := by
  obtain ⟨fuel, hf⟩ := ht
  exact h enc W fuel _ _ hf
end Go.Proofs.YtfccgfjiplnmfaaDoor.Opens

