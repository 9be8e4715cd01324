/-
  DERIVED. GIVEN WITH THE SEED: THE CARDS: each row of YtfncbcbhhddnpaaDoorRows.lean that lists a variable, with what it lists TIED to the program's text (the seventh form; the later family's looks); each row that meets fmt, with fmt's text TOLD by the authors' own Lean function (tested against real Go, not proved from fmt's source: count such statements apart). THE CARD IS WHAT COUNTS. Prove the row's statement (the work); the ties are given (YtfncbcbhhddnpaaDoorTie.lean); close each card by the builder's one call (the guide's Derived/Test/ToyasCard.lean, 'card_holds'). Laid BY PROGRAM, IN A SANDBOX (cutbox-door.mjs). By AI agents, Wed Nov 11 2026. No macro, syntax, notation, axiom, sorry.
-/
import Derived.Test.YtfncbcbhhddnpaaDoorRows
import GoSem.ClaimSeven
namespace Go.Proofs.YtfncbcbhhddnpaaDoor
namespace Rows

/-- THE TIED CARD OF 'bazaarlaw11.MoneyKeeps'. -/
def moneyKeepsCard : Claim7 := { stood := { row := moneyKeepsRow, standIns := [], harness := (true, "1c4bc5a98670bad6780dff2f07ff0e2ed706c02940228ba9c420c2d0f057c149"), looks := true }, kinds := [], alts := [], laidByText := true, laidKinds := [.sentinel, .sentinel, .sentinel], laidTests := true, laidLooks := .later }
def MoneyKeepsCardSaid : Prop := Claim7.holds Tryd.pinned (.plain (OpenSpec.ofChange moneyKeepsSpec)) moneyKeepsCard

/-- THE TIED CARD OF 'bazaarlaw11.MoneySums'. -/
def moneySumsCard : Claim7 := { stood := { row := moneySumsRow, standIns := [], harness := (true, "1c4bc5a98670bad6780dff2f07ff0e2ed706c02940228ba9c420c2d0f057c149"), looks := true }, kinds := [], alts := [], laidByText := true, laidKinds := [.sentinel, .sentinel, .sentinel], laidTests := true, laidLooks := .later }
def MoneySumsCardSaid : Prop := Claim7.holds Tryd.pinned (.plain (OpenSpec.ofChange moneySumsSpec)) moneySumsCard

/-- THE TIED CARD OF 'bazaarlaw11.MoneyTimes'. -/
def moneyTimesCard : Claim7 := { stood := { row := moneyTimesRow, standIns := [], harness := (true, "1c4bc5a98670bad6780dff2f07ff0e2ed706c02940228ba9c420c2d0f057c149"), looks := true }, kinds := [], alts := [], laidByText := true, laidKinds := [.sentinel, .sentinel, .sentinel], laidTests := true, laidLooks := .later }
def MoneyTimesCardSaid : Prop := Claim7.holds Tryd.pinned (.plain (OpenSpec.ofChange moneyTimesSpec)) moneyTimesCard

/-- THE TIED CARD OF 'bazaarlaw11.MoneyTurns'. -/
def moneyTurnsCard : Claim7 := { stood := { row := moneyTurnsRow, standIns := [], harness := (true, "1c4bc5a98670bad6780dff2f07ff0e2ed706c02940228ba9c420c2d0f057c149"), looks := true }, kinds := [], alts := [], laidByText := true, laidKinds := [.sentinel, .sentinel, .sentinel], laidTests := true, laidLooks := .later }
def MoneyTurnsCardSaid : Prop := Claim7.holds Tryd.pinned (.plain (OpenSpec.ofChange moneyTurnsSpec)) moneyTurnsCard

/-- THE TIED CARD OF 'bazaarlaw11.MoneyBounds'. -/
def moneyBoundsCard : Claim7 := { stood := { row := moneyBoundsRow, standIns := [], harness := (true, "1c4bc5a98670bad6780dff2f07ff0e2ed706c02940228ba9c420c2d0f057c149"), looks := true }, kinds := [], alts := [], laidByText := true, laidKinds := [.sentinel, .sentinel, .sentinel], laidTests := true, laidLooks := .later }
def MoneyBoundsCardSaid : Prop := Claim7.holds Tryd.pinned (.plain (OpenSpec.ofChange moneyBoundsSpec)) moneyBoundsCard

/-- THE TIED CARD OF 'bazaarlaw11.MoneyBytes'. -/
def moneyBytesCard : Claim7 := { stood := { row := moneyBytesRow, standIns := [], harness := (true, "1c4bc5a98670bad6780dff2f07ff0e2ed706c02940228ba9c420c2d0f057c149"), looks := true }, kinds := [], alts := [], laidByText := true, laidKinds := [.sentinel, .sentinel, .sentinel], laidTests := true, laidLooks := .later }
def MoneyBytesCardSaid : Prop := Claim7.holds Tryd.pinned (.plain (OpenSpec.ofChange moneyBytesSpec)) moneyBytesCard

/-- THE TIED CARD OF 'bazaarlaw11.MoneyBack'. -/
def moneyBackCard : Claim7 := { stood := { row := moneyBackRow, standIns := [], harness := (true, "1c4bc5a98670bad6780dff2f07ff0e2ed706c02940228ba9c420c2d0f057c149"), looks := true }, kinds := [], alts := [], laidByText := true, laidKinds := [.sentinel, .sentinel, .sentinel], laidTests := true, laidLooks := .later }
def MoneyBackCardSaid : Prop := Claim7.holds Tryd.pinned (.plain (OpenSpec.ofChange moneyBackSpec)) moneyBackCard

/-- THE SECOND FORM's CARD OF 'bazaarlaw11.MoneyKeeps'. -/
def moneyKeepsUptoCard : Claim7 := { stood := { row := moneyKeepsUptoRow, standIns := [], harness := (true, "1c4bc5a98670bad6780dff2f07ff0e2ed706c02940228ba9c420c2d0f057c149"), looks := true }, kinds := [], alts := [], laidByText := true, laidKinds := [.sentinel, .sentinel, .sentinel], laidTests := true, laidLooks := .later }
def MoneyKeepsUptoCardSaid : Prop := Claim7.holds Tryd.pinned (.plain (OpenSpec.upto moneyKeepsSpec)) moneyKeepsUptoCard

/-- THE SECOND FORM's CARD OF 'bazaarlaw11.MoneySums'. -/
def moneySumsUptoCard : Claim7 := { stood := { row := moneySumsUptoRow, standIns := [], harness := (true, "1c4bc5a98670bad6780dff2f07ff0e2ed706c02940228ba9c420c2d0f057c149"), looks := true }, kinds := [], alts := [], laidByText := true, laidKinds := [.sentinel, .sentinel, .sentinel], laidTests := true, laidLooks := .later }
def MoneySumsUptoCardSaid : Prop := Claim7.holds Tryd.pinned (.plain (OpenSpec.upto moneySumsSpec)) moneySumsUptoCard

/-- THE SECOND FORM's CARD OF 'bazaarlaw11.MoneyTimes'. -/
def moneyTimesUptoCard : Claim7 := { stood := { row := moneyTimesUptoRow, standIns := [], harness := (true, "1c4bc5a98670bad6780dff2f07ff0e2ed706c02940228ba9c420c2d0f057c149"), looks := true }, kinds := [], alts := [], laidByText := true, laidKinds := [.sentinel, .sentinel, .sentinel], laidTests := true, laidLooks := .later }
def MoneyTimesUptoCardSaid : Prop := Claim7.holds Tryd.pinned (.plain (OpenSpec.upto moneyTimesSpec)) moneyTimesUptoCard

/-- THE SECOND FORM's CARD OF 'bazaarlaw11.MoneyTurns'. -/
def moneyTurnsUptoCard : Claim7 := { stood := { row := moneyTurnsUptoRow, standIns := [], harness := (true, "1c4bc5a98670bad6780dff2f07ff0e2ed706c02940228ba9c420c2d0f057c149"), looks := true }, kinds := [], alts := [], laidByText := true, laidKinds := [.sentinel, .sentinel, .sentinel], laidTests := true, laidLooks := .later }
def MoneyTurnsUptoCardSaid : Prop := Claim7.holds Tryd.pinned (.plain (OpenSpec.upto moneyTurnsSpec)) moneyTurnsUptoCard

/-- THE SECOND FORM's CARD OF 'bazaarlaw11.MoneyBounds'. -/
def moneyBoundsUptoCard : Claim7 := { stood := { row := moneyBoundsUptoRow, standIns := [], harness := (true, "1c4bc5a98670bad6780dff2f07ff0e2ed706c02940228ba9c420c2d0f057c149"), looks := true }, kinds := [], alts := [], laidByText := true, laidKinds := [.sentinel, .sentinel, .sentinel], laidTests := true, laidLooks := .later }
def MoneyBoundsUptoCardSaid : Prop := Claim7.holds Tryd.pinned (.plain (OpenSpec.upto moneyBoundsSpec)) moneyBoundsUptoCard

/-- THE SECOND FORM's CARD OF 'bazaarlaw11.MoneyBytes'. -/
def moneyBytesUptoCard : Claim7 := { stood := { row := moneyBytesUptoRow, standIns := [], harness := (true, "1c4bc5a98670bad6780dff2f07ff0e2ed706c02940228ba9c420c2d0f057c149"), looks := true }, kinds := [], alts := [], laidByText := true, laidKinds := [.sentinel, .sentinel, .sentinel], laidTests := true, laidLooks := .later }
def MoneyBytesUptoCardSaid : Prop := Claim7.holds Tryd.pinned (.plain (OpenSpec.upto moneyBytesSpec)) moneyBytesUptoCard

/-- THE SECOND FORM's CARD OF 'bazaarlaw11.MoneyBack'. -/
def moneyBackUptoCard : Claim7 := { stood := { row := moneyBackUptoRow, standIns := [], harness := (true, "1c4bc5a98670bad6780dff2f07ff0e2ed706c02940228ba9c420c2d0f057c149"), looks := true }, kinds := [], alts := [], laidByText := true, laidKinds := [.sentinel, .sentinel, .sentinel], laidTests := true, laidLooks := .later }
def MoneyBackUptoCardSaid : Prop := Claim7.holds Tryd.pinned (.plain (OpenSpec.upto moneyBackSpec)) moneyBackUptoCard
end Rows
end Go.Proofs.YtfncbcbhhddnpaaDoor
