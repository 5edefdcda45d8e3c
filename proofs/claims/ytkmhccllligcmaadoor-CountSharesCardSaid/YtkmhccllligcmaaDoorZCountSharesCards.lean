/- Of the text Cards, what the row of CountShares reaches. -/
import Derived.Test.YtkmhccllligcmaaDoorRows
import GoSem.ClaimSeven
namespace Go.Proofs.YtkmhccllligcmaaDoor
namespace Rows

/-- THE TIED CARD OF 'wigeonlaw06.CountShares'. -/
def countSharesCard : Claim7 := { stood := { row := countSharesRow, standIns := [], harness := (true, "470891eb41d10655d0f7f94a99cd76eed3488979110bd65b32cbd5a2e632ea8c"), looks := false }, kinds := [], alts := [], laidByText := true, laidKinds := [.data, .pinned], laidTests := true, laidLooks := .later }
def CountSharesCardSaid : Prop := Claim7.holds Tryd.pinned (.plain (OpenSpec.ofChange countSharesSpec)) countSharesCard

end Rows
end Go.Proofs.YtkmhccllligcmaaDoor

