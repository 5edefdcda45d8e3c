/-
  No cell of these rows narrows 'for every input' (looked for: loops, veiled, ifaces, maps, wideKeys, modest, calm, conditions, laid).
  DERIVED. THE GIVEN ROWS OF THIS SEAT. 12 by the template 'for every input the law returns true; each argument reads behind the call as it read before'; 0 by the template 'total and deterministic' (their statements: YtnmaonampilmoaaTotals.lean).
  GIVEN WITH THE SEED: the statements are not yours to turn. If you find one false, say at which input.
  Laid BY PROGRAM, IN A SANDBOX (cutbox-rows.mjs): the forced cells as the released guide's own fill.sh prints them over the translation 1b97e557fc6bee92… (all of the seat's roots in one cut). By AI agents, Wed Nov 11 2026. No macro, syntax, notation, axiom, sorry.
-/
import Derived.Test.YtnmaonampilmoaaChecked
import GoSem.Claim
import GoSem.ClaimJoined
import GoSem.ClaimMapViews
import Derived.JoinedTies
import Derived.KernelRfl
namespace Go.Proofs.Ytnmaonampilmoaa
/- THE CELL 'sum', in the pinned program and in every row, IS THE sha256 OF THE DUMP (.gsa) THAT YtnmaonampilmoaaProg.lean LOADS. Nothing in Lean hashes anything: it is a label: what it is worth is what the hold of that sum in a sandbox is worth. -/
noncomputable def Try.pinned : Pinned := { name := "ytnmaonampilmoaa", sum := "1b97e557fc6bee92537eaebc314d74eb51d053b63b6d44fc3148e7a36dfd9a5e", checked := Try.checked }
namespace Rows
def none {H : Type} : Left H := { results := [], args := [] }

/-- 'wigeonlaw04.LureRanks': WHATEVER THE INPUT: true; the input reads as it did. -/
def lureRanksSpec : ChangeSpec := { name := "lureRanks", fn := fun _ => fun
  | [d1, d2] => { results := [.lit (.bool true)], args := [d1, d2] }
  | _ => none }
def lureRanksRow : OpenClaim := { program := "ytnmaonampilmoaa", sum := "1b97e557fc6bee92537eaebc314d74eb51d053b63b6d44fc3148e7a36dfd9a5e", func := "wigeon/wigeonlaw04.LureRanks", spec := "lureRanks", unfollowed := true, recurses := true, apart := false }
def LureRanksSaid : Prop := lureRanksRow.holds Try.pinned (OpenSpec.ofChange lureRanksSpec)

/-- ITS FALSE NEIGHBOUR: 'it returns false'. Refute it at one input. -/
def lureRanksWrong : ChangeSpec := { name := "lureRanks", fn := fun _ => fun
  | [d1, d2] => { results := [.lit (.bool false)], args := [d1, d2] }
  | _ => none }
def LureRanksWrongFalsely : Prop := lureRanksRow.holds Try.pinned (OpenSpec.ofChange lureRanksWrong)

/-- 'wigeonlaw04.LureWithin': WHATEVER THE INPUT: true; the input reads as it did. -/
def lureWithinSpec : ChangeSpec := { name := "lureWithin", fn := fun _ => fun
  | [d1, d2, d3] => { results := [.lit (.bool true)], args := [d1, d2, d3] }
  | _ => none }
def lureWithinRow : OpenClaim := { program := "ytnmaonampilmoaa", sum := "1b97e557fc6bee92537eaebc314d74eb51d053b63b6d44fc3148e7a36dfd9a5e", func := "wigeon/wigeonlaw04.LureWithin", spec := "lureWithin", unfollowed := true, recurses := true, apart := false }
def LureWithinSaid : Prop := lureWithinRow.holds Try.pinned (OpenSpec.ofChange lureWithinSpec)

/-- ITS FALSE NEIGHBOUR: 'it returns false'. Refute it at one input. -/
def lureWithinWrong : ChangeSpec := { name := "lureWithin", fn := fun _ => fun
  | [d1, d2, d3] => { results := [.lit (.bool false)], args := [d1, d2, d3] }
  | _ => none }
def LureWithinWrongFalsely : Prop := lureWithinRow.holds Try.pinned (OpenSpec.ofChange lureWithinWrong)

/-- 'wigeonlaw04.LureBefore': WHATEVER THE INPUT: true; the input reads as it did. -/
def lureBeforeSpec : ChangeSpec := { name := "lureBefore", fn := fun _ => fun
  | [d1, d2] => { results := [.lit (.bool true)], args := [d1, d2] }
  | _ => none }
def lureBeforeRow : OpenClaim := { program := "ytnmaonampilmoaa", sum := "1b97e557fc6bee92537eaebc314d74eb51d053b63b6d44fc3148e7a36dfd9a5e", func := "wigeon/wigeonlaw04.LureBefore", spec := "lureBefore", unfollowed := true, recurses := true, apart := false }
def LureBeforeSaid : Prop := lureBeforeRow.holds Try.pinned (OpenSpec.ofChange lureBeforeSpec)

/-- ITS FALSE NEIGHBOUR: 'it returns false'. Refute it at one input. -/
def lureBeforeWrong : ChangeSpec := { name := "lureBefore", fn := fun _ => fun
  | [d1, d2] => { results := [.lit (.bool false)], args := [d1, d2] }
  | _ => none }
def LureBeforeWrongFalsely : Prop := lureBeforeRow.holds Try.pinned (OpenSpec.ofChange lureBeforeWrong)

/-- 'wigeonlaw04.LureTraps': WHATEVER THE INPUT: true; the input reads as it did. -/
def lureTrapsSpec : ChangeSpec := { name := "lureTraps", fn := fun _ => fun
  | [d1, d2, d3] => { results := [.lit (.bool true)], args := [d1, d2, d3] }
  | _ => none }
def lureTrapsRow : OpenClaim := { program := "ytnmaonampilmoaa", sum := "1b97e557fc6bee92537eaebc314d74eb51d053b63b6d44fc3148e7a36dfd9a5e", func := "wigeon/wigeonlaw04.LureTraps", spec := "lureTraps", unfollowed := true, recurses := true, apart := false }
def LureTrapsSaid : Prop := lureTrapsRow.holds Try.pinned (OpenSpec.ofChange lureTrapsSpec)

/-- ITS FALSE NEIGHBOUR: 'it returns false'. Refute it at one input. -/
def lureTrapsWrong : ChangeSpec := { name := "lureTraps", fn := fun _ => fun
  | [d1, d2, d3] => { results := [.lit (.bool false)], args := [d1, d2, d3] }
  | _ => none }
def LureTrapsWrongFalsely : Prop := lureTrapsRow.holds Try.pinned (OpenSpec.ofChange lureTrapsWrong)

/-- 'wigeonlaw04.LureProofs': WHATEVER THE INPUT: true; the input reads as it did. -/
def lureProofsSpec : ChangeSpec := { name := "lureProofs", fn := fun _ => fun
  | [d1, d2, d3] => { results := [.lit (.bool true)], args := [d1, d2, d3] }
  | _ => none }
def lureProofsRow : OpenClaim := { program := "ytnmaonampilmoaa", sum := "1b97e557fc6bee92537eaebc314d74eb51d053b63b6d44fc3148e7a36dfd9a5e", func := "wigeon/wigeonlaw04.LureProofs", spec := "lureProofs", unfollowed := true, recurses := true, apart := false }
def LureProofsSaid : Prop := lureProofsRow.holds Try.pinned (OpenSpec.ofChange lureProofsSpec)

/-- ITS FALSE NEIGHBOUR: 'it returns false'. Refute it at one input. -/
def lureProofsWrong : ChangeSpec := { name := "lureProofs", fn := fun _ => fun
  | [d1, d2, d3] => { results := [.lit (.bool false)], args := [d1, d2, d3] }
  | _ => none }
def LureProofsWrongFalsely : Prop := lureProofsRow.holds Try.pinned (OpenSpec.ofChange lureProofsWrong)

/-- 'wigeonlaw04.LurePlays': WHATEVER THE INPUT: true; the input reads as it did. -/
def lurePlaysSpec : ChangeSpec := { name := "lurePlays", fn := fun _ => fun
  | [d1, d2] => { results := [.lit (.bool true)], args := [d1, d2] }
  | _ => none }
def lurePlaysRow : OpenClaim := { program := "ytnmaonampilmoaa", sum := "1b97e557fc6bee92537eaebc314d74eb51d053b63b6d44fc3148e7a36dfd9a5e", func := "wigeon/wigeonlaw04.LurePlays", spec := "lurePlays", unfollowed := true, recurses := true, apart := false }
def LurePlaysSaid : Prop := lurePlaysRow.holds Try.pinned (OpenSpec.ofChange lurePlaysSpec)

/-- ITS FALSE NEIGHBOUR: 'it returns false'. Refute it at one input. -/
def lurePlaysWrong : ChangeSpec := { name := "lurePlays", fn := fun _ => fun
  | [d1, d2] => { results := [.lit (.bool false)], args := [d1, d2] }
  | _ => none }
def LurePlaysWrongFalsely : Prop := lurePlaysRow.holds Try.pinned (OpenSpec.ofChange lurePlaysWrong)

/-- 'wigeonlaw04.LureCertifies': WHATEVER THE INPUT: true; the input reads as it did. -/
def lureCertifiesSpec : ChangeSpec := { name := "lureCertifies", fn := fun _ => fun
  | [d1, d2] => { results := [.lit (.bool true)], args := [d1, d2] }
  | _ => none }
def lureCertifiesRow : OpenClaim := { program := "ytnmaonampilmoaa", sum := "1b97e557fc6bee92537eaebc314d74eb51d053b63b6d44fc3148e7a36dfd9a5e", func := "wigeon/wigeonlaw04.LureCertifies", spec := "lureCertifies", unfollowed := true, recurses := true, apart := false }
def LureCertifiesSaid : Prop := lureCertifiesRow.holds Try.pinned (OpenSpec.ofChange lureCertifiesSpec)

/-- ITS FALSE NEIGHBOUR: 'it returns false'. Refute it at one input. -/
def lureCertifiesWrong : ChangeSpec := { name := "lureCertifies", fn := fun _ => fun
  | [d1, d2] => { results := [.lit (.bool false)], args := [d1, d2] }
  | _ => none }
def LureCertifiesWrongFalsely : Prop := lureCertifiesRow.holds Try.pinned (OpenSpec.ofChange lureCertifiesWrong)

/-- 'wigeonlaw04.LurePlans': WHATEVER THE INPUT: true; the input reads as it did. -/
def lurePlansSpec : ChangeSpec := { name := "lurePlans", fn := fun _ => fun
  | [d1, d2] => { results := [.lit (.bool true)], args := [d1, d2] }
  | _ => none }
def lurePlansRow : OpenClaim := { program := "ytnmaonampilmoaa", sum := "1b97e557fc6bee92537eaebc314d74eb51d053b63b6d44fc3148e7a36dfd9a5e", func := "wigeon/wigeonlaw04.LurePlans", spec := "lurePlans", unfollowed := true, recurses := true, apart := false }
def LurePlansSaid : Prop := lurePlansRow.holds Try.pinned (OpenSpec.ofChange lurePlansSpec)

/-- ITS FALSE NEIGHBOUR: 'it returns false'. Refute it at one input. -/
def lurePlansWrong : ChangeSpec := { name := "lurePlans", fn := fun _ => fun
  | [d1, d2] => { results := [.lit (.bool false)], args := [d1, d2] }
  | _ => none }
def LurePlansWrongFalsely : Prop := lurePlansRow.holds Try.pinned (OpenSpec.ofChange lurePlansWrong)

/-- 'wigeonlaw04.LureKeeps': WHATEVER THE INPUT: true; the input reads as it did. -/
def lureKeepsSpec : ChangeSpec := { name := "lureKeeps", fn := fun _ => fun
  | [d1, d2] => { results := [.lit (.bool true)], args := [d1, d2] }
  | _ => none }
def lureKeepsRow : OpenClaim := { program := "ytnmaonampilmoaa", sum := "1b97e557fc6bee92537eaebc314d74eb51d053b63b6d44fc3148e7a36dfd9a5e", func := "wigeon/wigeonlaw04.LureKeeps", spec := "lureKeeps", unfollowed := true, recurses := true, apart := false }
def LureKeepsSaid : Prop := lureKeepsRow.holds Try.pinned (OpenSpec.ofChange lureKeepsSpec)

/-- ITS FALSE NEIGHBOUR: 'it returns false'. Refute it at one input. -/
def lureKeepsWrong : ChangeSpec := { name := "lureKeeps", fn := fun _ => fun
  | [d1, d2] => { results := [.lit (.bool false)], args := [d1, d2] }
  | _ => none }
def LureKeepsWrongFalsely : Prop := lureKeepsRow.holds Try.pinned (OpenSpec.ofChange lureKeepsWrong)

/-- 'wigeonlaw04.LureAgain': WHATEVER THE INPUT: true; the input reads as it did. -/
def lureAgainSpec : ChangeSpec := { name := "lureAgain", fn := fun _ => fun
  | [d1, d2] => { results := [.lit (.bool true)], args := [d1, d2] }
  | _ => none }
def lureAgainRow : OpenClaim := { program := "ytnmaonampilmoaa", sum := "1b97e557fc6bee92537eaebc314d74eb51d053b63b6d44fc3148e7a36dfd9a5e", func := "wigeon/wigeonlaw04.LureAgain", spec := "lureAgain", unfollowed := true, recurses := true, apart := false }
def LureAgainSaid : Prop := lureAgainRow.holds Try.pinned (OpenSpec.ofChange lureAgainSpec)

/-- ITS FALSE NEIGHBOUR: 'it returns false'. Refute it at one input. -/
def lureAgainWrong : ChangeSpec := { name := "lureAgain", fn := fun _ => fun
  | [d1, d2] => { results := [.lit (.bool false)], args := [d1, d2] }
  | _ => none }
def LureAgainWrongFalsely : Prop := lureAgainRow.holds Try.pinned (OpenSpec.ofChange lureAgainWrong)

/-- 'wigeonlaw04.LureExchanges': WHATEVER THE INPUT: true; the input reads as it did. -/
def lureExchangesSpec : ChangeSpec := { name := "lureExchanges", fn := fun _ => fun
  | [d1, d2] => { results := [.lit (.bool true)], args := [d1, d2] }
  | _ => none }
def lureExchangesRow : OpenClaim := { program := "ytnmaonampilmoaa", sum := "1b97e557fc6bee92537eaebc314d74eb51d053b63b6d44fc3148e7a36dfd9a5e", func := "wigeon/wigeonlaw04.LureExchanges", spec := "lureExchanges", unfollowed := true, recurses := true, apart := false }
def LureExchangesSaid : Prop := lureExchangesRow.holds Try.pinned (OpenSpec.ofChange lureExchangesSpec)

/-- ITS FALSE NEIGHBOUR: 'it returns false'. Refute it at one input. -/
def lureExchangesWrong : ChangeSpec := { name := "lureExchanges", fn := fun _ => fun
  | [d1, d2] => { results := [.lit (.bool false)], args := [d1, d2] }
  | _ => none }
def LureExchangesWrongFalsely : Prop := lureExchangesRow.holds Try.pinned (OpenSpec.ofChange lureExchangesWrong)

/-- 'wigeonlaw04.LureForces': WHATEVER THE INPUT: true; the input reads as it did. -/
def lureForcesSpec : ChangeSpec := { name := "lureForces", fn := fun _ => fun
  | [d1, d2, d3] => { results := [.lit (.bool true)], args := [d1, d2, d3] }
  | _ => none }
def lureForcesRow : OpenClaim := { program := "ytnmaonampilmoaa", sum := "1b97e557fc6bee92537eaebc314d74eb51d053b63b6d44fc3148e7a36dfd9a5e", func := "wigeon/wigeonlaw04.LureForces", spec := "lureForces", unfollowed := true, recurses := true, apart := false }
def LureForcesSaid : Prop := lureForcesRow.holds Try.pinned (OpenSpec.ofChange lureForcesSpec)

/-- ITS FALSE NEIGHBOUR: 'it returns false'. Refute it at one input. -/
def lureForcesWrong : ChangeSpec := { name := "lureForces", fn := fun _ => fun
  | [d1, d2, d3] => { results := [.lit (.bool false)], args := [d1, d2, d3] }
  | _ => none }
def LureForcesWrongFalsely : Prop := lureForcesRow.holds Try.pinned (OpenSpec.ofChange lureForcesWrong)

/- THE SECOND FORM. 'bulk': how many values and letters a reading holds, each counted each time it is reached (what is shared counts as often as it is met; a slice's spare places count too). A statement '..UptoSaid' is the law's where the arguments, and the package variables that the reading takes, are together of bulk at most 1048576: NARROWER than '..Said'. Prove '..Said' where nothing that the law and all that it calls make is longer than what came in: it says more and counts as full. Else prove '..UptoSaid'. A law counts once. -/
mutual
def uptoBulk {H : Type} : DataW H → Nat
  | .lit (.string bytes) => bytes.length + 1
  | .lit _ => 1
  | .nil => 1
  | .ptr d => uptoBulk d + 1
  | .slice elems spare => uptoBulkAll elems + uptoBulkAll spare + 1
  | .agg parts => uptoBulkAll parts + 1
  | .iface _ d => uptoBulk d + 1
  | .map entries => uptoBulkEntries entries + 1
  | .held _ => 1
def uptoBulkAll {H : Type} : List (DataW H) → Nat
  | [] => 0
  | d :: r => uptoBulk d + uptoBulkAll r
def uptoBulkEntries {H : Type} : List (Lit × DataW H) → Nat
  | [] => 0
  | x :: r => uptoBulkEntry x + uptoBulkEntries r
def uptoBulkEntry {H : Type} : Lit × DataW H → Nat
  | (.string bytes, d) => bytes.length + uptoBulk d + 1
  | (_, d) => uptoBulk d + 1
 end
def uptoSmall : (H : Type) → List (DataW H) → Bool := fun _ ds => decide (uptoBulkAll ds ≤ 1048576)
def OpenSpec.upto (s : _root_.Go.ChangeSpec) : _root_.Go.OpenSpec := { _root_.Go.OpenSpec.ofChange s with cond := some uptoSmall }

/-- 'wigeonlaw04.LureRanks', WHERE WHAT IT READS IS OF BULK AT MOST 1048576: true; the input reads as it did. -/
def lureRanksUptoRow : OpenClaim := { program := "ytnmaonampilmoaa", sum := "1b97e557fc6bee92537eaebc314d74eb51d053b63b6d44fc3148e7a36dfd9a5e", func := "wigeon/wigeonlaw04.LureRanks", spec := "lureRanks", unfollowed := true, recurses := true, apart := false, narrowed := true }
def LureRanksUptoSaid : Prop := lureRanksUptoRow.holds Try.pinned (OpenSpec.upto lureRanksSpec)

/-- 'wigeonlaw04.LureWithin', WHERE WHAT IT READS IS OF BULK AT MOST 1048576: true; the input reads as it did. -/
def lureWithinUptoRow : OpenClaim := { program := "ytnmaonampilmoaa", sum := "1b97e557fc6bee92537eaebc314d74eb51d053b63b6d44fc3148e7a36dfd9a5e", func := "wigeon/wigeonlaw04.LureWithin", spec := "lureWithin", unfollowed := true, recurses := true, apart := false, narrowed := true }
def LureWithinUptoSaid : Prop := lureWithinUptoRow.holds Try.pinned (OpenSpec.upto lureWithinSpec)

/-- 'wigeonlaw04.LureBefore', WHERE WHAT IT READS IS OF BULK AT MOST 1048576: true; the input reads as it did. -/
def lureBeforeUptoRow : OpenClaim := { program := "ytnmaonampilmoaa", sum := "1b97e557fc6bee92537eaebc314d74eb51d053b63b6d44fc3148e7a36dfd9a5e", func := "wigeon/wigeonlaw04.LureBefore", spec := "lureBefore", unfollowed := true, recurses := true, apart := false, narrowed := true }
def LureBeforeUptoSaid : Prop := lureBeforeUptoRow.holds Try.pinned (OpenSpec.upto lureBeforeSpec)

/-- 'wigeonlaw04.LureTraps', WHERE WHAT IT READS IS OF BULK AT MOST 1048576: true; the input reads as it did. -/
def lureTrapsUptoRow : OpenClaim := { program := "ytnmaonampilmoaa", sum := "1b97e557fc6bee92537eaebc314d74eb51d053b63b6d44fc3148e7a36dfd9a5e", func := "wigeon/wigeonlaw04.LureTraps", spec := "lureTraps", unfollowed := true, recurses := true, apart := false, narrowed := true }
def LureTrapsUptoSaid : Prop := lureTrapsUptoRow.holds Try.pinned (OpenSpec.upto lureTrapsSpec)

/-- 'wigeonlaw04.LureProofs', WHERE WHAT IT READS IS OF BULK AT MOST 1048576: true; the input reads as it did. -/
def lureProofsUptoRow : OpenClaim := { program := "ytnmaonampilmoaa", sum := "1b97e557fc6bee92537eaebc314d74eb51d053b63b6d44fc3148e7a36dfd9a5e", func := "wigeon/wigeonlaw04.LureProofs", spec := "lureProofs", unfollowed := true, recurses := true, apart := false, narrowed := true }
def LureProofsUptoSaid : Prop := lureProofsUptoRow.holds Try.pinned (OpenSpec.upto lureProofsSpec)

/-- 'wigeonlaw04.LurePlays', WHERE WHAT IT READS IS OF BULK AT MOST 1048576: true; the input reads as it did. -/
def lurePlaysUptoRow : OpenClaim := { program := "ytnmaonampilmoaa", sum := "1b97e557fc6bee92537eaebc314d74eb51d053b63b6d44fc3148e7a36dfd9a5e", func := "wigeon/wigeonlaw04.LurePlays", spec := "lurePlays", unfollowed := true, recurses := true, apart := false, narrowed := true }
def LurePlaysUptoSaid : Prop := lurePlaysUptoRow.holds Try.pinned (OpenSpec.upto lurePlaysSpec)

/-- 'wigeonlaw04.LureCertifies', WHERE WHAT IT READS IS OF BULK AT MOST 1048576: true; the input reads as it did. -/
def lureCertifiesUptoRow : OpenClaim := { program := "ytnmaonampilmoaa", sum := "1b97e557fc6bee92537eaebc314d74eb51d053b63b6d44fc3148e7a36dfd9a5e", func := "wigeon/wigeonlaw04.LureCertifies", spec := "lureCertifies", unfollowed := true, recurses := true, apart := false, narrowed := true }
def LureCertifiesUptoSaid : Prop := lureCertifiesUptoRow.holds Try.pinned (OpenSpec.upto lureCertifiesSpec)

/-- 'wigeonlaw04.LurePlans', WHERE WHAT IT READS IS OF BULK AT MOST 1048576: true; the input reads as it did. -/
def lurePlansUptoRow : OpenClaim := { program := "ytnmaonampilmoaa", sum := "1b97e557fc6bee92537eaebc314d74eb51d053b63b6d44fc3148e7a36dfd9a5e", func := "wigeon/wigeonlaw04.LurePlans", spec := "lurePlans", unfollowed := true, recurses := true, apart := false, narrowed := true }
def LurePlansUptoSaid : Prop := lurePlansUptoRow.holds Try.pinned (OpenSpec.upto lurePlansSpec)

/-- 'wigeonlaw04.LureKeeps', WHERE WHAT IT READS IS OF BULK AT MOST 1048576: true; the input reads as it did. -/
def lureKeepsUptoRow : OpenClaim := { program := "ytnmaonampilmoaa", sum := "1b97e557fc6bee92537eaebc314d74eb51d053b63b6d44fc3148e7a36dfd9a5e", func := "wigeon/wigeonlaw04.LureKeeps", spec := "lureKeeps", unfollowed := true, recurses := true, apart := false, narrowed := true }
def LureKeepsUptoSaid : Prop := lureKeepsUptoRow.holds Try.pinned (OpenSpec.upto lureKeepsSpec)

/-- 'wigeonlaw04.LureAgain', WHERE WHAT IT READS IS OF BULK AT MOST 1048576: true; the input reads as it did. -/
def lureAgainUptoRow : OpenClaim := { program := "ytnmaonampilmoaa", sum := "1b97e557fc6bee92537eaebc314d74eb51d053b63b6d44fc3148e7a36dfd9a5e", func := "wigeon/wigeonlaw04.LureAgain", spec := "lureAgain", unfollowed := true, recurses := true, apart := false, narrowed := true }
def LureAgainUptoSaid : Prop := lureAgainUptoRow.holds Try.pinned (OpenSpec.upto lureAgainSpec)

/-- 'wigeonlaw04.LureExchanges', WHERE WHAT IT READS IS OF BULK AT MOST 1048576: true; the input reads as it did. -/
def lureExchangesUptoRow : OpenClaim := { program := "ytnmaonampilmoaa", sum := "1b97e557fc6bee92537eaebc314d74eb51d053b63b6d44fc3148e7a36dfd9a5e", func := "wigeon/wigeonlaw04.LureExchanges", spec := "lureExchanges", unfollowed := true, recurses := true, apart := false, narrowed := true }
def LureExchangesUptoSaid : Prop := lureExchangesUptoRow.holds Try.pinned (OpenSpec.upto lureExchangesSpec)

/-- 'wigeonlaw04.LureForces', WHERE WHAT IT READS IS OF BULK AT MOST 1048576: true; the input reads as it did. -/
def lureForcesUptoRow : OpenClaim := { program := "ytnmaonampilmoaa", sum := "1b97e557fc6bee92537eaebc314d74eb51d053b63b6d44fc3148e7a36dfd9a5e", func := "wigeon/wigeonlaw04.LureForces", spec := "lureForces", unfollowed := true, recurses := true, apart := false, narrowed := true }
def LureForcesUptoSaid : Prop := lureForcesUptoRow.holds Try.pinned (OpenSpec.upto lureForcesSpec)

end Rows
end Go.Proofs.Ytnmaonampilmoaa
