/-
  No cell of these rows narrows 'for every input' (looked for: loops, veiled, ifaces, maps, wideKeys, modest, calm, conditions, laid).
  DERIVED. THE GIVEN ROWS OF THIS SEAT. 12 by the template 'for every input the law returns true; each argument reads behind the call as it read before'; 0 by the template 'total and deterministic' (their statements: YtgkgednbmfinnaaTotals.lean).
  GIVEN WITH THE SEED: the statements are not yours to turn. If you find one false, say at which input.
  Laid BY PROGRAM, IN A SANDBOX (cutbox-rows.mjs): the forced cells as the released guide's own fill.sh prints them over the translation 497380b7e3f5b207… (all of the seat's roots in one cut). By AI agents, Wed Nov 11 2026. No macro, syntax, notation, axiom, sorry.
-/
import Derived.Test.YtgkgednbmfinnaaChecked
import GoSem.Claim
import GoSem.ClaimJoined
import GoSem.ClaimMapViews
import Derived.JoinedTies
import Derived.KernelRfl
namespace Go.Proofs.Ytgkgednbmfinnaa
/- THE CELL 'sum', in the pinned program and in every row, IS THE sha256 OF THE DUMP (.gsa) THAT YtgkgednbmfinnaaProg.lean LOADS. Nothing in Lean hashes anything: it is a label: what it is worth is what the hold of that sum in a sandbox is worth. -/
noncomputable def Try.pinned : Pinned := { name := "ytgkgednbmfinnaa", sum := "497380b7e3f5b207f458e561def5993beea55fd0d0e60515bb569ab4720218e2", checked := Try.checked }
namespace Rows
def none {H : Type} : Left H := { results := [], args := [] }

/-- 'wigeonlaw02.ScreenTouches': WHATEVER THE INPUT: true; the input reads as it did. -/
def screenTouchesSpec : ChangeSpec := { name := "screenTouches", fn := fun _ => fun
  | [d1, d2] => { results := [.lit (.bool true)], args := [d1, d2] }
  | _ => none }
def screenTouchesRow : OpenClaim := { program := "ytgkgednbmfinnaa", sum := "497380b7e3f5b207f458e561def5993beea55fd0d0e60515bb569ab4720218e2", func := "wigeon/wigeonlaw02.ScreenTouches", spec := "screenTouches", unfollowed := true, recurses := true, plainKeys := false, apart := false }
def ScreenTouchesSaid : Prop := screenTouchesRow.holds Try.pinned (OpenSpec.ofChange screenTouchesSpec)

/-- ITS FALSE NEIGHBOUR: 'it returns false'. Refute it at one input. -/
def screenTouchesWrong : ChangeSpec := { name := "screenTouches", fn := fun _ => fun
  | [d1, d2] => { results := [.lit (.bool false)], args := [d1, d2] }
  | _ => none }
def ScreenTouchesWrongFalsely : Prop := screenTouchesRow.holds Try.pinned (OpenSpec.ofChange screenTouchesWrong)

/-- 'wigeonlaw02.ScreenSees': WHATEVER THE INPUT: true; the input reads as it did. -/
def screenSeesSpec : ChangeSpec := { name := "screenSees", fn := fun _ => fun
  | [d1, d2] => { results := [.lit (.bool true)], args := [d1, d2] }
  | _ => none }
def screenSeesRow : OpenClaim := { program := "ytgkgednbmfinnaa", sum := "497380b7e3f5b207f458e561def5993beea55fd0d0e60515bb569ab4720218e2", func := "wigeon/wigeonlaw02.ScreenSees", spec := "screenSees", unfollowed := true, recurses := true, plainKeys := false, apart := false }
def ScreenSeesSaid : Prop := screenSeesRow.holds Try.pinned (OpenSpec.ofChange screenSeesSpec)

/-- ITS FALSE NEIGHBOUR: 'it returns false'. Refute it at one input. -/
def screenSeesWrong : ChangeSpec := { name := "screenSees", fn := fun _ => fun
  | [d1, d2] => { results := [.lit (.bool false)], args := [d1, d2] }
  | _ => none }
def ScreenSeesWrongFalsely : Prop := screenSeesRow.holds Try.pinned (OpenSpec.ofChange screenSeesWrong)

/-- 'wigeonlaw02.ScreenSights': WHATEVER THE INPUT: true; the input reads as it did. -/
def screenSightsSpec : ChangeSpec := { name := "screenSights", fn := fun _ => fun
  | [d1, d2] => { results := [.lit (.bool true)], args := [d1, d2] }
  | _ => none }
def screenSightsRow : OpenClaim := { program := "ytgkgednbmfinnaa", sum := "497380b7e3f5b207f458e561def5993beea55fd0d0e60515bb569ab4720218e2", func := "wigeon/wigeonlaw02.ScreenSights", spec := "screenSights", unfollowed := true, recurses := true, plainKeys := false, apart := false }
def ScreenSightsSaid : Prop := screenSightsRow.holds Try.pinned (OpenSpec.ofChange screenSightsSpec)

/-- ITS FALSE NEIGHBOUR: 'it returns false'. Refute it at one input. -/
def screenSightsWrong : ChangeSpec := { name := "screenSights", fn := fun _ => fun
  | [d1, d2] => { results := [.lit (.bool false)], args := [d1, d2] }
  | _ => none }
def ScreenSightsWrongFalsely : Prop := screenSightsRow.holds Try.pinned (OpenSpec.ofChange screenSightsWrong)

/-- 'wigeonlaw02.ScreenDark': WHATEVER THE INPUT: true; the input reads as it did. -/
def screenDarkSpec : ChangeSpec := { name := "screenDark", fn := fun _ => fun
  | [d1, d2, d3] => { results := [.lit (.bool true)], args := [d1, d2, d3] }
  | _ => none }
def screenDarkRow : OpenClaim := { program := "ytgkgednbmfinnaa", sum := "497380b7e3f5b207f458e561def5993beea55fd0d0e60515bb569ab4720218e2", func := "wigeon/wigeonlaw02.ScreenDark", spec := "screenDark", unfollowed := true, recurses := true, plainKeys := false, apart := false }
def ScreenDarkSaid : Prop := screenDarkRow.holds Try.pinned (OpenSpec.ofChange screenDarkSpec)

/-- ITS FALSE NEIGHBOUR: 'it returns false'. Refute it at one input. -/
def screenDarkWrong : ChangeSpec := { name := "screenDark", fn := fun _ => fun
  | [d1, d2, d3] => { results := [.lit (.bool false)], args := [d1, d2, d3] }
  | _ => none }
def ScreenDarkWrongFalsely : Prop := screenDarkRow.holds Try.pinned (OpenSpec.ofChange screenDarkWrong)

/-- 'wigeonlaw02.ScreenSeers': WHATEVER THE INPUT: true; the input reads as it did. -/
def screenSeersSpec : ChangeSpec := { name := "screenSeers", fn := fun _ => fun
  | [d1, d2, d3] => { results := [.lit (.bool true)], args := [d1, d2, d3] }
  | _ => none }
def screenSeersRow : OpenClaim := { program := "ytgkgednbmfinnaa", sum := "497380b7e3f5b207f458e561def5993beea55fd0d0e60515bb569ab4720218e2", func := "wigeon/wigeonlaw02.ScreenSeers", spec := "screenSeers", unfollowed := true, recurses := true, plainKeys := false, apart := false }
def ScreenSeersSaid : Prop := screenSeersRow.holds Try.pinned (OpenSpec.ofChange screenSeersSpec)

/-- ITS FALSE NEIGHBOUR: 'it returns false'. Refute it at one input. -/
def screenSeersWrong : ChangeSpec := { name := "screenSeers", fn := fun _ => fun
  | [d1, d2, d3] => { results := [.lit (.bool false)], args := [d1, d2, d3] }
  | _ => none }
def ScreenSeersWrongFalsely : Prop := screenSeersRow.holds Try.pinned (OpenSpec.ofChange screenSeersWrong)

/-- 'wigeonlaw02.ScreenMoves': WHATEVER THE INPUT: true; the input reads as it did. -/
def screenMovesSpec : ChangeSpec := { name := "screenMoves", fn := fun _ => fun
  | [d1, d2] => { results := [.lit (.bool true)], args := [d1, d2] }
  | _ => none }
def screenMovesRow : OpenClaim := { program := "ytgkgednbmfinnaa", sum := "497380b7e3f5b207f458e561def5993beea55fd0d0e60515bb569ab4720218e2", func := "wigeon/wigeonlaw02.ScreenMoves", spec := "screenMoves", unfollowed := true, recurses := true, plainKeys := false, apart := false }
def ScreenMovesSaid : Prop := screenMovesRow.holds Try.pinned (OpenSpec.ofChange screenMovesSpec)

/-- ITS FALSE NEIGHBOUR: 'it returns false'. Refute it at one input. -/
def screenMovesWrong : ChangeSpec := { name := "screenMoves", fn := fun _ => fun
  | [d1, d2] => { results := [.lit (.bool false)], args := [d1, d2] }
  | _ => none }
def ScreenMovesWrongFalsely : Prop := screenMovesRow.holds Try.pinned (OpenSpec.ofChange screenMovesWrong)

/-- 'wigeonlaw02.ScreenShows': WHATEVER THE INPUT: true; the input reads as it did. -/
def screenShowsSpec : ChangeSpec := { name := "screenShows", fn := fun _ => fun
  | [d1, d2, d3] => { results := [.lit (.bool true)], args := [d1, d2, d3] }
  | _ => none }
def screenShowsRow : OpenClaim := { program := "ytgkgednbmfinnaa", sum := "497380b7e3f5b207f458e561def5993beea55fd0d0e60515bb569ab4720218e2", func := "wigeon/wigeonlaw02.ScreenShows", spec := "screenShows", unfollowed := true, recurses := true, plainKeys := false, apart := false }
def ScreenShowsSaid : Prop := screenShowsRow.holds Try.pinned (OpenSpec.ofChange screenShowsSpec)

/-- ITS FALSE NEIGHBOUR: 'it returns false'. Refute it at one input. -/
def screenShowsWrong : ChangeSpec := { name := "screenShows", fn := fun _ => fun
  | [d1, d2, d3] => { results := [.lit (.bool false)], args := [d1, d2, d3] }
  | _ => none }
def ScreenShowsWrongFalsely : Prop := screenShowsRow.holds Try.pinned (OpenSpec.ofChange screenShowsWrong)

/-- 'wigeonlaw02.ScreenChecks': WHATEVER THE INPUT: true; the input reads as it did. -/
def screenChecksSpec : ChangeSpec := { name := "screenChecks", fn := fun _ => fun
  | [d1, d2] => { results := [.lit (.bool true)], args := [d1, d2] }
  | _ => none }
def screenChecksRow : OpenClaim := { program := "ytgkgednbmfinnaa", sum := "497380b7e3f5b207f458e561def5993beea55fd0d0e60515bb569ab4720218e2", func := "wigeon/wigeonlaw02.ScreenChecks", spec := "screenChecks", unfollowed := true, recurses := true, plainKeys := false, apart := false }
def ScreenChecksSaid : Prop := screenChecksRow.holds Try.pinned (OpenSpec.ofChange screenChecksSpec)

/-- ITS FALSE NEIGHBOUR: 'it returns false'. Refute it at one input. -/
def screenChecksWrong : ChangeSpec := { name := "screenChecks", fn := fun _ => fun
  | [d1, d2] => { results := [.lit (.bool false)], args := [d1, d2] }
  | _ => none }
def ScreenChecksWrongFalsely : Prop := screenChecksRow.holds Try.pinned (OpenSpec.ofChange screenChecksWrong)

/-- 'wigeonlaw02.ScreenGroups': WHATEVER THE INPUT: true; the input reads as it did. -/
def screenGroupsSpec : ChangeSpec := { name := "screenGroups", fn := fun _ => fun
  | [d1, d2] => { results := [.lit (.bool true)], args := [d1, d2] }
  | _ => none }
def screenGroupsRow : OpenClaim := { program := "ytgkgednbmfinnaa", sum := "497380b7e3f5b207f458e561def5993beea55fd0d0e60515bb569ab4720218e2", func := "wigeon/wigeonlaw02.ScreenGroups", spec := "screenGroups", unfollowed := true, recurses := true, plainKeys := false, apart := false }
def ScreenGroupsSaid : Prop := screenGroupsRow.holds Try.pinned (OpenSpec.ofChange screenGroupsSpec)

/-- ITS FALSE NEIGHBOUR: 'it returns false'. Refute it at one input. -/
def screenGroupsWrong : ChangeSpec := { name := "screenGroups", fn := fun _ => fun
  | [d1, d2] => { results := [.lit (.bool false)], args := [d1, d2] }
  | _ => none }
def ScreenGroupsWrongFalsely : Prop := screenGroupsRow.holds Try.pinned (OpenSpec.ofChange screenGroupsWrong)

/-- 'wigeonlaw02.ScreenWays': WHATEVER THE INPUT: true; the input reads as it did. -/
def screenWaysSpec : ChangeSpec := { name := "screenWays", fn := fun _ => fun
  | [d1, d2] => { results := [.lit (.bool true)], args := [d1, d2] }
  | _ => none }
def screenWaysRow : OpenClaim := { program := "ytgkgednbmfinnaa", sum := "497380b7e3f5b207f458e561def5993beea55fd0d0e60515bb569ab4720218e2", func := "wigeon/wigeonlaw02.ScreenWays", spec := "screenWays", unfollowed := true, recurses := true, plainKeys := false, apart := false }
def ScreenWaysSaid : Prop := screenWaysRow.holds Try.pinned (OpenSpec.ofChange screenWaysSpec)

/-- ITS FALSE NEIGHBOUR: 'it returns false'. Refute it at one input. -/
def screenWaysWrong : ChangeSpec := { name := "screenWays", fn := fun _ => fun
  | [d1, d2] => { results := [.lit (.bool false)], args := [d1, d2] }
  | _ => none }
def ScreenWaysWrongFalsely : Prop := screenWaysRow.holds Try.pinned (OpenSpec.ofChange screenWaysWrong)

/-- 'wigeonlaw02.ScreenReaches': WHATEVER THE INPUT: true; the input reads as it did. -/
def screenReachesSpec : ChangeSpec := { name := "screenReaches", fn := fun _ => fun
  | [d1, d2, d3] => { results := [.lit (.bool true)], args := [d1, d2, d3] }
  | _ => none }
def screenReachesRow : OpenClaim := { program := "ytgkgednbmfinnaa", sum := "497380b7e3f5b207f458e561def5993beea55fd0d0e60515bb569ab4720218e2", func := "wigeon/wigeonlaw02.ScreenReaches", spec := "screenReaches", unfollowed := true, recurses := true, plainKeys := false, apart := false }
def ScreenReachesSaid : Prop := screenReachesRow.holds Try.pinned (OpenSpec.ofChange screenReachesSpec)

/-- ITS FALSE NEIGHBOUR: 'it returns false'. Refute it at one input. -/
def screenReachesWrong : ChangeSpec := { name := "screenReaches", fn := fun _ => fun
  | [d1, d2, d3] => { results := [.lit (.bool false)], args := [d1, d2, d3] }
  | _ => none }
def ScreenReachesWrongFalsely : Prop := screenReachesRow.holds Try.pinned (OpenSpec.ofChange screenReachesWrong)

/-- 'wigeonlaw02.ScreenSteps': WHATEVER THE INPUT: true; the input reads as it did. -/
def screenStepsSpec : ChangeSpec := { name := "screenSteps", fn := fun _ => fun
  | [d1, d2] => { results := [.lit (.bool true)], args := [d1, d2] }
  | _ => none }
def screenStepsRow : OpenClaim := { program := "ytgkgednbmfinnaa", sum := "497380b7e3f5b207f458e561def5993beea55fd0d0e60515bb569ab4720218e2", func := "wigeon/wigeonlaw02.ScreenSteps", spec := "screenSteps", unfollowed := true, recurses := true, plainKeys := false, apart := false }
def ScreenStepsSaid : Prop := screenStepsRow.holds Try.pinned (OpenSpec.ofChange screenStepsSpec)

/-- ITS FALSE NEIGHBOUR: 'it returns false'. Refute it at one input. -/
def screenStepsWrong : ChangeSpec := { name := "screenSteps", fn := fun _ => fun
  | [d1, d2] => { results := [.lit (.bool false)], args := [d1, d2] }
  | _ => none }
def ScreenStepsWrongFalsely : Prop := screenStepsRow.holds Try.pinned (OpenSpec.ofChange screenStepsWrong)

/- THE SECOND FORM. 'bulk': how many values and letters a reading holds, each counted each time it is reached (what is shared counts as often as it is met; a slice's spare places count too). A statement '..UptoSaid' is the law's where the arguments, and the package variables that the reading takes, are together of bulk at most 1048576: NARROWER than '..Said'. Prove '..Said' where nothing that the law and all that it calls make is longer than what came in: it says more and counts as full. Else prove '..UptoSaid'. A law counts once. -/
mutual
def uptoBulk {H : Type} : DataW H → Nat
  | .lit (.string bytes) => bytes.length + 1
  | .lit _ => 1
  | .nil => 1
  | .ptr d => uptoBulk d + 1
  | .slice elems spare => uptoBulkAll elems + uptoBulkAll spare + 1
  | .agg parts => uptoBulkAll parts + 1
  | .iface _ d => uptoBulk d + 1
  | .map entries => uptoBulkEntries entries + 1
  | .held _ => 1
def uptoBulkAll {H : Type} : List (DataW H) → Nat
  | [] => 0
  | d :: r => uptoBulk d + uptoBulkAll r
def uptoBulkEntries {H : Type} : List (Lit × DataW H) → Nat
  | [] => 0
  | x :: r => uptoBulkEntry x + uptoBulkEntries r
def uptoBulkEntry {H : Type} : Lit × DataW H → Nat
  | (.string bytes, d) => bytes.length + uptoBulk d + 1
  | (_, d) => uptoBulk d + 1
 end
def uptoSmall : (H : Type) → List (DataW H) → Bool := fun _ ds => decide (uptoBulkAll ds ≤ 1048576)
def OpenSpec.upto (s : _root_.Go.ChangeSpec) : _root_.Go.OpenSpec := { _root_.Go.OpenSpec.ofChange s with cond := some uptoSmall }

/-- 'wigeonlaw02.ScreenTouches', WHERE WHAT IT READS IS OF BULK AT MOST 1048576: true; the input reads as it did. -/
def screenTouchesUptoRow : OpenClaim := { program := "ytgkgednbmfinnaa", sum := "497380b7e3f5b207f458e561def5993beea55fd0d0e60515bb569ab4720218e2", func := "wigeon/wigeonlaw02.ScreenTouches", spec := "screenTouches", unfollowed := true, recurses := true, plainKeys := false, apart := false, narrowed := true }
def ScreenTouchesUptoSaid : Prop := screenTouchesUptoRow.holds Try.pinned (OpenSpec.upto screenTouchesSpec)

/-- 'wigeonlaw02.ScreenSees', WHERE WHAT IT READS IS OF BULK AT MOST 1048576: true; the input reads as it did. -/
def screenSeesUptoRow : OpenClaim := { program := "ytgkgednbmfinnaa", sum := "497380b7e3f5b207f458e561def5993beea55fd0d0e60515bb569ab4720218e2", func := "wigeon/wigeonlaw02.ScreenSees", spec := "screenSees", unfollowed := true, recurses := true, plainKeys := false, apart := false, narrowed := true }
def ScreenSeesUptoSaid : Prop := screenSeesUptoRow.holds Try.pinned (OpenSpec.upto screenSeesSpec)

/-- 'wigeonlaw02.ScreenSights', WHERE WHAT IT READS IS OF BULK AT MOST 1048576: true; the input reads as it did. -/
def screenSightsUptoRow : OpenClaim := { program := "ytgkgednbmfinnaa", sum := "497380b7e3f5b207f458e561def5993beea55fd0d0e60515bb569ab4720218e2", func := "wigeon/wigeonlaw02.ScreenSights", spec := "screenSights", unfollowed := true, recurses := true, plainKeys := false, apart := false, narrowed := true }
def ScreenSightsUptoSaid : Prop := screenSightsUptoRow.holds Try.pinned (OpenSpec.upto screenSightsSpec)

/-- 'wigeonlaw02.ScreenDark', WHERE WHAT IT READS IS OF BULK AT MOST 1048576: true; the input reads as it did. -/
def screenDarkUptoRow : OpenClaim := { program := "ytgkgednbmfinnaa", sum := "497380b7e3f5b207f458e561def5993beea55fd0d0e60515bb569ab4720218e2", func := "wigeon/wigeonlaw02.ScreenDark", spec := "screenDark", unfollowed := true, recurses := true, plainKeys := false, apart := false, narrowed := true }
def ScreenDarkUptoSaid : Prop := screenDarkUptoRow.holds Try.pinned (OpenSpec.upto screenDarkSpec)

/-- 'wigeonlaw02.ScreenSeers', WHERE WHAT IT READS IS OF BULK AT MOST 1048576: true; the input reads as it did. -/
def screenSeersUptoRow : OpenClaim := { program := "ytgkgednbmfinnaa", sum := "497380b7e3f5b207f458e561def5993beea55fd0d0e60515bb569ab4720218e2", func := "wigeon/wigeonlaw02.ScreenSeers", spec := "screenSeers", unfollowed := true, recurses := true, plainKeys := false, apart := false, narrowed := true }
def ScreenSeersUptoSaid : Prop := screenSeersUptoRow.holds Try.pinned (OpenSpec.upto screenSeersSpec)

/-- 'wigeonlaw02.ScreenMoves', WHERE WHAT IT READS IS OF BULK AT MOST 1048576: true; the input reads as it did. -/
def screenMovesUptoRow : OpenClaim := { program := "ytgkgednbmfinnaa", sum := "497380b7e3f5b207f458e561def5993beea55fd0d0e60515bb569ab4720218e2", func := "wigeon/wigeonlaw02.ScreenMoves", spec := "screenMoves", unfollowed := true, recurses := true, plainKeys := false, apart := false, narrowed := true }
def ScreenMovesUptoSaid : Prop := screenMovesUptoRow.holds Try.pinned (OpenSpec.upto screenMovesSpec)

/-- 'wigeonlaw02.ScreenShows', WHERE WHAT IT READS IS OF BULK AT MOST 1048576: true; the input reads as it did. -/
def screenShowsUptoRow : OpenClaim := { program := "ytgkgednbmfinnaa", sum := "497380b7e3f5b207f458e561def5993beea55fd0d0e60515bb569ab4720218e2", func := "wigeon/wigeonlaw02.ScreenShows", spec := "screenShows", unfollowed := true, recurses := true, plainKeys := false, apart := false, narrowed := true }
def ScreenShowsUptoSaid : Prop := screenShowsUptoRow.holds Try.pinned (OpenSpec.upto screenShowsSpec)

/-- 'wigeonlaw02.ScreenChecks', WHERE WHAT IT READS IS OF BULK AT MOST 1048576: true; the input reads as it did. -/
def screenChecksUptoRow : OpenClaim := { program := "ytgkgednbmfinnaa", sum := "497380b7e3f5b207f458e561def5993beea55fd0d0e60515bb569ab4720218e2", func := "wigeon/wigeonlaw02.ScreenChecks", spec := "screenChecks", unfollowed := true, recurses := true, plainKeys := false, apart := false, narrowed := true }
def ScreenChecksUptoSaid : Prop := screenChecksUptoRow.holds Try.pinned (OpenSpec.upto screenChecksSpec)

/-- 'wigeonlaw02.ScreenGroups', WHERE WHAT IT READS IS OF BULK AT MOST 1048576: true; the input reads as it did. -/
def screenGroupsUptoRow : OpenClaim := { program := "ytgkgednbmfinnaa", sum := "497380b7e3f5b207f458e561def5993beea55fd0d0e60515bb569ab4720218e2", func := "wigeon/wigeonlaw02.ScreenGroups", spec := "screenGroups", unfollowed := true, recurses := true, plainKeys := false, apart := false, narrowed := true }
def ScreenGroupsUptoSaid : Prop := screenGroupsUptoRow.holds Try.pinned (OpenSpec.upto screenGroupsSpec)

/-- 'wigeonlaw02.ScreenWays', WHERE WHAT IT READS IS OF BULK AT MOST 1048576: true; the input reads as it did. -/
def screenWaysUptoRow : OpenClaim := { program := "ytgkgednbmfinnaa", sum := "497380b7e3f5b207f458e561def5993beea55fd0d0e60515bb569ab4720218e2", func := "wigeon/wigeonlaw02.ScreenWays", spec := "screenWays", unfollowed := true, recurses := true, plainKeys := false, apart := false, narrowed := true }
def ScreenWaysUptoSaid : Prop := screenWaysUptoRow.holds Try.pinned (OpenSpec.upto screenWaysSpec)

/-- 'wigeonlaw02.ScreenReaches', WHERE WHAT IT READS IS OF BULK AT MOST 1048576: true; the input reads as it did. -/
def screenReachesUptoRow : OpenClaim := { program := "ytgkgednbmfinnaa", sum := "497380b7e3f5b207f458e561def5993beea55fd0d0e60515bb569ab4720218e2", func := "wigeon/wigeonlaw02.ScreenReaches", spec := "screenReaches", unfollowed := true, recurses := true, plainKeys := false, apart := false, narrowed := true }
def ScreenReachesUptoSaid : Prop := screenReachesUptoRow.holds Try.pinned (OpenSpec.upto screenReachesSpec)

/-- 'wigeonlaw02.ScreenSteps', WHERE WHAT IT READS IS OF BULK AT MOST 1048576: true; the input reads as it did. -/
def screenStepsUptoRow : OpenClaim := { program := "ytgkgednbmfinnaa", sum := "497380b7e3f5b207f458e561def5993beea55fd0d0e60515bb569ab4720218e2", func := "wigeon/wigeonlaw02.ScreenSteps", spec := "screenSteps", unfollowed := true, recurses := true, plainKeys := false, apart := false, narrowed := true }
def ScreenStepsUptoSaid : Prop := screenStepsUptoRow.holds Try.pinned (OpenSpec.upto screenStepsSpec)

end Rows
end Go.Proofs.Ytgkgednbmfinnaa
