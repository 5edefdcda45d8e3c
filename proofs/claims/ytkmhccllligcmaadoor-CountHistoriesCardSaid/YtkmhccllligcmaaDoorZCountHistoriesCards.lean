/- Of the text Cards, what the row of CountHistories reaches. -/
import Derived.Test.YtkmhccllligcmaaDoorRows
import GoSem.ClaimSeven
namespace Go.Proofs.YtkmhccllligcmaaDoor
namespace Rows

/-- THE TIED CARD OF 'wigeonlaw06.CountHistories'. -/
def countHistoriesCard : Claim7 := { stood := { row := countHistoriesRow, standIns := [], harness := (true, "470891eb41d10655d0f7f94a99cd76eed3488979110bd65b32cbd5a2e632ea8c"), looks := false }, kinds := [], alts := [], laidByText := true, laidKinds := [.data, .pinned], laidTests := true, laidLooks := .later }
def CountHistoriesCardSaid : Prop := Claim7.holds Tryd.pinned (.plain (OpenSpec.ofChange countHistoriesSpec)) countHistoriesCard

end Rows
end Go.Proofs.YtkmhccllligcmaaDoor

