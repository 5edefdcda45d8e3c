/-
  No cell of these rows narrows 'for every input' (looked for: loops, veiled, ifaces, maps, wideKeys, modest, calm, conditions, laid).
  DERIVED. THE GIVEN ROWS OF THIS SEAT. 4 by the template 'for every input the law returns true; each argument reads behind the call as it read before'; 0 by the template 'total and deterministic' (their statements: YtieffjkplaajdaaTotals.lean).
  GIVEN WITH THE SEED: the statements are not yours to turn. If you find one false, say at which input.
  Laid BY PROGRAM, IN A SANDBOX (cutbox-rows.mjs): the forced cells as the released guide's own fill.sh prints them over the translation 76983bea415d5bb5… (all of the seat's roots in one cut). By AI agents, Wed Nov 11 2026. No macro, syntax, notation, axiom, sorry.
-/
import Derived.Test.YtieffjkplaajdaaChecked
import GoSem.Claim
import GoSem.ClaimJoined
import GoSem.ClaimMapViews
import Derived.JoinedTies
import Derived.KernelRfl
namespace Go.Proofs.Ytieffjkplaajdaa
/- THE CELL 'sum', in the pinned program and in every row, IS THE sha256 OF THE DUMP (.gsa) THAT YtieffjkplaajdaaProg.lean LOADS. Nothing in Lean hashes anything: it is a label: what it is worth is what the hold of that sum in a sandbox is worth. -/
noncomputable def Try.pinned : Pinned := { name := "ytieffjkplaajdaa", sum := "76983bea415d5bb5fec2edc6d1b1bb5e90ce47b9518b95d7eaba7b5da1ce8a96", checked := Try.checked }
namespace Rows
def none {H : Type} : Left H := { results := [], args := [] }

/-- 'wigeonlaw02.ScreenWays': WHATEVER THE INPUT: true; the input reads as it did. -/
def screenWaysSpec : ChangeSpec := { name := "screenWays", fn := fun _ => fun
  | [d1, d2] => { results := [.lit (.bool true)], args := [d1, d2] }
  | _ => none }
def screenWaysRow : OpenClaim := { program := "ytieffjkplaajdaa", sum := "76983bea415d5bb5fec2edc6d1b1bb5e90ce47b9518b95d7eaba7b5da1ce8a96", func := "wigeon/wigeonlaw02.ScreenWays", spec := "screenWays", unfollowed := true, recurses := true, plainKeys := false, apart := false }
def ScreenWaysSaid : Prop := screenWaysRow.holds Try.pinned (OpenSpec.ofChange screenWaysSpec)

/-- ITS FALSE NEIGHBOUR: 'it returns false'. Refute it at one input. -/
def screenWaysWrong : ChangeSpec := { name := "screenWays", fn := fun _ => fun
  | [d1, d2] => { results := [.lit (.bool false)], args := [d1, d2] }
  | _ => none }
def ScreenWaysWrongFalsely : Prop := screenWaysRow.holds Try.pinned (OpenSpec.ofChange screenWaysWrong)

/-- 'wigeonlaw02.ScreenReaches': WHATEVER THE INPUT: true; the input reads as it did. -/
def screenReachesSpec : ChangeSpec := { name := "screenReaches", fn := fun _ => fun
  | [d1, d2, d3] => { results := [.lit (.bool true)], args := [d1, d2, d3] }
  | _ => none }
def screenReachesRow : OpenClaim := { program := "ytieffjkplaajdaa", sum := "76983bea415d5bb5fec2edc6d1b1bb5e90ce47b9518b95d7eaba7b5da1ce8a96", func := "wigeon/wigeonlaw02.ScreenReaches", spec := "screenReaches", unfollowed := true, recurses := true, plainKeys := false, apart := false }
def ScreenReachesSaid : Prop := screenReachesRow.holds Try.pinned (OpenSpec.ofChange screenReachesSpec)

/-- ITS FALSE NEIGHBOUR: 'it returns false'. Refute it at one input. -/
def screenReachesWrong : ChangeSpec := { name := "screenReaches", fn := fun _ => fun
  | [d1, d2, d3] => { results := [.lit (.bool false)], args := [d1, d2, d3] }
  | _ => none }
def ScreenReachesWrongFalsely : Prop := screenReachesRow.holds Try.pinned (OpenSpec.ofChange screenReachesWrong)

/-- 'wigeonlaw02.ScreenSteps': WHATEVER THE INPUT: true; the input reads as it did. -/
def screenStepsSpec : ChangeSpec := { name := "screenSteps", fn := fun _ => fun
  | [d1, d2] => { results := [.lit (.bool true)], args := [d1, d2] }
  | _ => none }
def screenStepsRow : OpenClaim := { program := "ytieffjkplaajdaa", sum := "76983bea415d5bb5fec2edc6d1b1bb5e90ce47b9518b95d7eaba7b5da1ce8a96", func := "wigeon/wigeonlaw02.ScreenSteps", spec := "screenSteps", unfollowed := true, recurses := true, plainKeys := false, apart := false }
def ScreenStepsSaid : Prop := screenStepsRow.holds Try.pinned (OpenSpec.ofChange screenStepsSpec)

/-- ITS FALSE NEIGHBOUR: 'it returns false'. Refute it at one input. -/
def screenStepsWrong : ChangeSpec := { name := "screenSteps", fn := fun _ => fun
  | [d1, d2] => { results := [.lit (.bool false)], args := [d1, d2] }
  | _ => none }
def ScreenStepsWrongFalsely : Prop := screenStepsRow.holds Try.pinned (OpenSpec.ofChange screenStepsWrong)

/-- 'wigeontop.TopSights': WHATEVER THE INPUT: true; the input reads as it did. -/
def topSightsSpec : ChangeSpec := { name := "topSights", fn := fun _ => fun
  | [d1, d2] => { results := [.lit (.bool true)], args := [d1, d2] }
  | _ => none }
def topSightsRow : OpenClaim := { program := "ytieffjkplaajdaa", sum := "76983bea415d5bb5fec2edc6d1b1bb5e90ce47b9518b95d7eaba7b5da1ce8a96", func := "wigeon/wigeontop.TopSights", spec := "topSights", unfollowed := true, recurses := true, plainKeys := false, apart := false }
def TopSightsSaid : Prop := topSightsRow.holds Try.pinned (OpenSpec.ofChange topSightsSpec)

/-- ITS FALSE NEIGHBOUR: 'it returns false'. Refute it at one input. -/
def topSightsWrong : ChangeSpec := { name := "topSights", fn := fun _ => fun
  | [d1, d2] => { results := [.lit (.bool false)], args := [d1, d2] }
  | _ => none }
def TopSightsWrongFalsely : Prop := topSightsRow.holds Try.pinned (OpenSpec.ofChange topSightsWrong)

/- THE SECOND FORM. 'bulk': how many values and letters a reading holds, each counted each time it is reached (what is shared counts as often as it is met; a slice's spare places count too). A statement '..UptoSaid' is the law's where the arguments, and the package variables that the reading takes, are together of bulk at most 1048576: NARROWER than '..Said'. Prove '..Said' where nothing that the law and all that it calls make is longer than what came in: it says more and counts as full. Else prove '..UptoSaid'. A law counts once. -/
mutual
def uptoBulk {H : Type} : DataW H → Nat
  | .lit (.string bytes) => bytes.length + 1
  | .lit _ => 1
  | .nil => 1
  | .ptr d => uptoBulk d + 1
  | .slice elems spare => uptoBulkAll elems + uptoBulkAll spare + 1
  | .agg parts => uptoBulkAll parts + 1
  | .iface _ d => uptoBulk d + 1
  | .map entries => uptoBulkEntries entries + 1
  | .held _ => 1
def uptoBulkAll {H : Type} : List (DataW H) → Nat
  | [] => 0
  | d :: r => uptoBulk d + uptoBulkAll r
def uptoBulkEntries {H : Type} : List (Lit × DataW H) → Nat
  | [] => 0
  | x :: r => uptoBulkEntry x + uptoBulkEntries r
def uptoBulkEntry {H : Type} : Lit × DataW H → Nat
  | (.string bytes, d) => bytes.length + uptoBulk d + 1
  | (_, d) => uptoBulk d + 1
 end
def uptoSmall : (H : Type) → List (DataW H) → Bool := fun _ ds => decide (uptoBulkAll ds ≤ 1048576)
def OpenSpec.upto (s : _root_.Go.ChangeSpec) : _root_.Go.OpenSpec := { _root_.Go.OpenSpec.ofChange s with cond := some uptoSmall }

/-- 'wigeonlaw02.ScreenWays', WHERE WHAT IT READS IS OF BULK AT MOST 1048576: true; the input reads as it did. -/
def screenWaysUptoRow : OpenClaim := { program := "ytieffjkplaajdaa", sum := "76983bea415d5bb5fec2edc6d1b1bb5e90ce47b9518b95d7eaba7b5da1ce8a96", func := "wigeon/wigeonlaw02.ScreenWays", spec := "screenWays", unfollowed := true, recurses := true, plainKeys := false, apart := false, narrowed := true }
def ScreenWaysUptoSaid : Prop := screenWaysUptoRow.holds Try.pinned (OpenSpec.upto screenWaysSpec)

/-- 'wigeonlaw02.ScreenReaches', WHERE WHAT IT READS IS OF BULK AT MOST 1048576: true; the input reads as it did. -/
def screenReachesUptoRow : OpenClaim := { program := "ytieffjkplaajdaa", sum := "76983bea415d5bb5fec2edc6d1b1bb5e90ce47b9518b95d7eaba7b5da1ce8a96", func := "wigeon/wigeonlaw02.ScreenReaches", spec := "screenReaches", unfollowed := true, recurses := true, plainKeys := false, apart := false, narrowed := true }
def ScreenReachesUptoSaid : Prop := screenReachesUptoRow.holds Try.pinned (OpenSpec.upto screenReachesSpec)

/-- 'wigeonlaw02.ScreenSteps', WHERE WHAT IT READS IS OF BULK AT MOST 1048576: true; the input reads as it did. -/
def screenStepsUptoRow : OpenClaim := { program := "ytieffjkplaajdaa", sum := "76983bea415d5bb5fec2edc6d1b1bb5e90ce47b9518b95d7eaba7b5da1ce8a96", func := "wigeon/wigeonlaw02.ScreenSteps", spec := "screenSteps", unfollowed := true, recurses := true, plainKeys := false, apart := false, narrowed := true }
def ScreenStepsUptoSaid : Prop := screenStepsUptoRow.holds Try.pinned (OpenSpec.upto screenStepsSpec)

/-- 'wigeontop.TopSights', WHERE WHAT IT READS IS OF BULK AT MOST 1048576: true; the input reads as it did. -/
def topSightsUptoRow : OpenClaim := { program := "ytieffjkplaajdaa", sum := "76983bea415d5bb5fec2edc6d1b1bb5e90ce47b9518b95d7eaba7b5da1ce8a96", func := "wigeon/wigeontop.TopSights", spec := "topSights", unfollowed := true, recurses := true, plainKeys := false, apart := false, narrowed := true }
def TopSightsUptoSaid : Prop := topSightsUptoRow.holds Try.pinned (OpenSpec.upto topSightsSpec)

end Rows
end Go.Proofs.Ytieffjkplaajdaa
