/- Of the text Cards, what the row of TopCounts reaches. -/
import Derived.Test.YtkmhccllligcmaaDoorRows
import GoSem.ClaimSeven
namespace Go.Proofs.YtkmhccllligcmaaDoor
namespace Rows

/-- THE TIED CARD OF 'wigeontop.TopCounts'. -/
def topCountsCard : Claim7 := { stood := { row := topCountsRow, standIns := [], harness := (true, "470891eb41d10655d0f7f94a99cd76eed3488979110bd65b32cbd5a2e632ea8c"), looks := false }, kinds := [], alts := [], laidByText := true, laidKinds := [.data, .pinned], laidTests := true, laidLooks := .later }
def TopCountsCardSaid : Prop := Claim7.holds Tryd.pinned (.plain (OpenSpec.ofChange topCountsSpec)) topCountsCard

end Rows
end Go.Proofs.YtkmhccllligcmaaDoor

