/- Of the text Cards, what the row of ScreenTexts reaches. -/
import Derived.Test.YtjiheojjfnfmaaaDoorRows
import GoSem.ClaimSeven
namespace Go.Proofs.YtjiheojjfnfmaaaDoor
namespace Rows

/-- THE TIED CARD OF 'wigeonlaw02.ScreenTexts'. -/
def screenTextsCard : Claim7 := { stood := { row := screenTextsRow, standIns := [], harness := (true, "2679389ecd376cb27572448e4b0f6f4c66fdaac7186a07feb8b6edb344481c9b"), looks := true }, kinds := [], alts := [], laidByText := true, laidKinds := [.data, .data, .data, .data, .sentinel, .sentinel, .pinned], laidTests := true, laidLooks := .later }
def ScreenTextsCardSaid : Prop := Claim7.holds Tryd.pinned (.plain (OpenSpec.ofChange screenTextsSpec)) screenTextsCard

end Rows
end Go.Proofs.YtjiheojjfnfmaaaDoor

