/- Of the text Cards, what the row of LureTexts reaches. -/
import Derived.Test.YtjiheojjfnfmaaaDoorRows
import GoSem.ClaimSeven
namespace Go.Proofs.YtjiheojjfnfmaaaDoor
namespace Rows

/-- THE TIED CARD OF 'wigeonlaw04.LureTexts'. -/
def lureTextsCard : Claim7 := { stood := { row := lureTextsRow, standIns := [], harness := (true, "2679389ecd376cb27572448e4b0f6f4c66fdaac7186a07feb8b6edb344481c9b"), looks := true }, kinds := [], alts := [], laidByText := true, laidKinds := [.data, .data, .data, .data, .sentinel, .sentinel, .pinned], laidTests := true, laidLooks := .later }
def LureTextsCardSaid : Prop := Claim7.holds Tryd.pinned (.plain (OpenSpec.ofChange lureTextsSpec)) lureTextsCard

end Rows
end Go.Proofs.YtjiheojjfnfmaaaDoor

