/- Of the text Cards, what the row of TopBook reaches. -/
import Derived.Test.YtfccgfjiplnmfaaDoorRows
import GoSem.ClaimSeven
namespace Go.Proofs.YtfccgfjiplnmfaaDoor
namespace Rows

/-- THE TIED CARD OF 'wigeontop.TopBook'. -/
def topBookCard : Claim7 := { stood := { row := topBookRow, standIns := [], harness := (true, "86f351b1c5bb304973d9b097a3e5e9f5840026c20c1603db62229534ad073f85"), looks := true }, kinds := [], alts := [], laidByText := true, laidKinds := [.data, .data, .data, .data, .sentinel, .sentinel, .pinned], laidTests := true, laidLooks := .later }
def TopBookCardSaid : Prop := Claim7.holds Tryd.pinned (.plain (OpenSpec.ofChange topBookSpec)) topBookCard

end Rows
end Go.Proofs.YtfccgfjiplnmfaaDoor

