/-
  DERIVED. GIVEN WITH THE SEED: THE CARDS: each row of YtgnjodocggihoaaDoorRows.lean that lists a variable, with what it lists TIED to the program's text (the seventh form; the later family's looks); each row that meets fmt, with fmt's text TOLD by the authors' own Lean function (tested against real Go, not proved from fmt's source: count such statements apart). THE CARD IS WHAT COUNTS. Prove the row's statement (the work); the ties are given (YtgnjodocggihoaaDoorTie.lean); close each card by the builder's one call (the guide's Derived/Test/ToyasCard.lean, 'card_holds'). Laid BY PROGRAM, IN A SANDBOX (cutbox-door.mjs). By AI agents, Wed Nov 11 2026. No macro, syntax, notation, axiom, sorry.
-/
import Derived.Test.YtgnjodocggihoaaDoorRows
import GoSem.ClaimSeven
namespace Go.Proofs.YtgnjodocggihoaaDoor
namespace Rows

/-- THE TIED CARD OF 'bazaarlaw13.AccountsTwice'. -/
def accountsTwiceCard : Claim7 := { stood := { row := accountsTwiceRow, standIns := [], harness := (true, "29e151c98b546d9aa02619735867fe3d4da9f4f5494eba23023cb67f848d4317"), looks := true }, kinds := [], alts := [], laidByText := true, laidKinds := [.sentinel, .sentinel, .sentinel], laidTests := true, laidLooks := .later }
def AccountsTwiceCardSaid : Prop := Claim7.holds Tryd.pinned (.plain (OpenSpec.ofChange accountsTwiceSpec)) accountsTwiceCard

/-- THE TIED CARD OF 'bazaarlaw13.AccountsTurn'. -/
def accountsTurnCard : Claim7 := { stood := { row := accountsTurnRow, standIns := [], harness := (true, "29e151c98b546d9aa02619735867fe3d4da9f4f5494eba23023cb67f848d4317"), looks := true }, kinds := [], alts := [], laidByText := true, laidKinds := [.sentinel, .sentinel, .sentinel], laidTests := true, laidLooks := .later }
def AccountsTurnCardSaid : Prop := Claim7.holds Tryd.pinned (.plain (OpenSpec.ofChange accountsTurnSpec)) accountsTurnCard

/-- THE TIED CARD OF 'bazaarlaw13.AccountsDo'. -/
def accountsDoCard : Claim7 := { stood := { row := accountsDoRow, standIns := [], harness := (true, "29e151c98b546d9aa02619735867fe3d4da9f4f5494eba23023cb67f848d4317"), looks := true }, kinds := [], alts := [], laidByText := true, laidKinds := [.sentinel, .sentinel, .sentinel], laidTests := true, laidLooks := .later }
def AccountsDoCardSaid : Prop := Claim7.holds Tryd.pinned (.plain (OpenSpec.ofChange accountsDoSpec)) accountsDoCard

/-- THE TIED CARD OF 'bazaarlaw13.AccountsKeep'. -/
def accountsKeepCard : Claim7 := { stood := { row := accountsKeepRow, standIns := [], harness := (true, "29e151c98b546d9aa02619735867fe3d4da9f4f5494eba23023cb67f848d4317"), looks := true }, kinds := [], alts := [], laidByText := true, laidKinds := [.sentinel, .sentinel, .sentinel], laidTests := true, laidLooks := .later }
def AccountsKeepCardSaid : Prop := Claim7.holds Tryd.pinned (.plain (OpenSpec.ofChange accountsKeepSpec)) accountsKeepCard

/-- THE TIED CARD OF 'bazaarlaw13.AccountsBytes'. -/
def accountsBytesCard : Claim7 := { stood := { row := accountsBytesRow, standIns := [], harness := (true, "29e151c98b546d9aa02619735867fe3d4da9f4f5494eba23023cb67f848d4317"), looks := true }, kinds := [], alts := [], laidByText := true, laidKinds := [.sentinel, .sentinel, .sentinel], laidTests := true, laidLooks := .later }
def AccountsBytesCardSaid : Prop := Claim7.holds Tryd.pinned (.plain (OpenSpec.ofChange accountsBytesSpec)) accountsBytesCard

/-- THE TIED CARD OF 'bazaarlaw13.AccountsBack'. -/
def accountsBackCard : Claim7 := { stood := { row := accountsBackRow, standIns := [], harness := (true, "29e151c98b546d9aa02619735867fe3d4da9f4f5494eba23023cb67f848d4317"), looks := true }, kinds := [], alts := [], laidByText := true, laidKinds := [.sentinel, .sentinel, .sentinel], laidTests := true, laidLooks := .later }
def AccountsBackCardSaid : Prop := Claim7.holds Tryd.pinned (.plain (OpenSpec.ofChange accountsBackSpec)) accountsBackCard

/-- THE TIED CARD OF 'bazaarlaw12.GoodsBack'. -/
def goodsBackCard : Claim7 := { stood := { row := goodsBackRow, standIns := [], harness := (true, "29e151c98b546d9aa02619735867fe3d4da9f4f5494eba23023cb67f848d4317"), looks := true }, kinds := [], alts := [], laidByText := true, laidKinds := [.sentinel, .sentinel, .sentinel], laidTests := true, laidLooks := .later }
def GoodsBackCardSaid : Prop := Claim7.holds Tryd.pinned (.plain (OpenSpec.ofChange goodsBackSpec)) goodsBackCard

/-- THE TIED CARD OF 'bazaarlaw12.GoodsOwn'. -/
def goodsOwnCard : Claim7 := { stood := { row := goodsOwnRow, standIns := [], harness := (true, "29e151c98b546d9aa02619735867fe3d4da9f4f5494eba23023cb67f848d4317"), looks := true }, kinds := [], alts := [], laidByText := true, laidKinds := [.sentinel, .sentinel, .sentinel], laidTests := true, laidLooks := .later }
def GoodsOwnCardSaid : Prop := Claim7.holds Tryd.pinned (.plain (OpenSpec.ofChange goodsOwnSpec)) goodsOwnCard

/-- THE TIED CARD OF 'bazaarlaw12.GoodsSlots'. -/
def goodsSlotsCard : Claim7 := { stood := { row := goodsSlotsRow, standIns := [], harness := (true, "29e151c98b546d9aa02619735867fe3d4da9f4f5494eba23023cb67f848d4317"), looks := true }, kinds := [], alts := [], laidByText := true, laidKinds := [.sentinel, .sentinel, .sentinel], laidTests := true, laidLooks := .later }
def GoodsSlotsCardSaid : Prop := Claim7.holds Tryd.pinned (.plain (OpenSpec.ofChange goodsSlotsSpec)) goodsSlotsCard

/-- THE TIED CARD OF 'bazaarlaw12.GoodsTwice'. -/
def goodsTwiceCard : Claim7 := { stood := { row := goodsTwiceRow, standIns := [], harness := (true, "29e151c98b546d9aa02619735867fe3d4da9f4f5494eba23023cb67f848d4317"), looks := true }, kinds := [], alts := [], laidByText := true, laidKinds := [.sentinel, .sentinel, .sentinel], laidTests := true, laidLooks := .later }
def GoodsTwiceCardSaid : Prop := Claim7.holds Tryd.pinned (.plain (OpenSpec.ofChange goodsTwiceSpec)) goodsTwiceCard

/-- THE TIED CARD OF 'bazaarlaw12.GoodsDo'. -/
def goodsDoCard : Claim7 := { stood := { row := goodsDoRow, standIns := [], harness := (true, "29e151c98b546d9aa02619735867fe3d4da9f4f5494eba23023cb67f848d4317"), looks := true }, kinds := [], alts := [], laidByText := true, laidKinds := [.sentinel, .sentinel, .sentinel], laidTests := true, laidLooks := .later }
def GoodsDoCardSaid : Prop := Claim7.holds Tryd.pinned (.plain (OpenSpec.ofChange goodsDoSpec)) goodsDoCard

/-- THE TIED CARD OF 'bazaarlaw12.GoodsKeep'. -/
def goodsKeepCard : Claim7 := { stood := { row := goodsKeepRow, standIns := [], harness := (true, "29e151c98b546d9aa02619735867fe3d4da9f4f5494eba23023cb67f848d4317"), looks := true }, kinds := [], alts := [], laidByText := true, laidKinds := [.sentinel, .sentinel, .sentinel], laidTests := true, laidLooks := .later }
def GoodsKeepCardSaid : Prop := Claim7.holds Tryd.pinned (.plain (OpenSpec.ofChange goodsKeepSpec)) goodsKeepCard

/-- THE SECOND FORM's CARD OF 'bazaarlaw13.AccountsTwice'. -/
def accountsTwiceUptoCard : Claim7 := { stood := { row := accountsTwiceUptoRow, standIns := [], harness := (true, "29e151c98b546d9aa02619735867fe3d4da9f4f5494eba23023cb67f848d4317"), looks := true }, kinds := [], alts := [], laidByText := true, laidKinds := [.sentinel, .sentinel, .sentinel], laidTests := true, laidLooks := .later }
def AccountsTwiceUptoCardSaid : Prop := Claim7.holds Tryd.pinned (.plain (OpenSpec.upto accountsTwiceSpec)) accountsTwiceUptoCard

/-- THE SECOND FORM's CARD OF 'bazaarlaw13.AccountsTurn'. -/
def accountsTurnUptoCard : Claim7 := { stood := { row := accountsTurnUptoRow, standIns := [], harness := (true, "29e151c98b546d9aa02619735867fe3d4da9f4f5494eba23023cb67f848d4317"), looks := true }, kinds := [], alts := [], laidByText := true, laidKinds := [.sentinel, .sentinel, .sentinel], laidTests := true, laidLooks := .later }
def AccountsTurnUptoCardSaid : Prop := Claim7.holds Tryd.pinned (.plain (OpenSpec.upto accountsTurnSpec)) accountsTurnUptoCard

/-- THE SECOND FORM's CARD OF 'bazaarlaw13.AccountsDo'. -/
def accountsDoUptoCard : Claim7 := { stood := { row := accountsDoUptoRow, standIns := [], harness := (true, "29e151c98b546d9aa02619735867fe3d4da9f4f5494eba23023cb67f848d4317"), looks := true }, kinds := [], alts := [], laidByText := true, laidKinds := [.sentinel, .sentinel, .sentinel], laidTests := true, laidLooks := .later }
def AccountsDoUptoCardSaid : Prop := Claim7.holds Tryd.pinned (.plain (OpenSpec.upto accountsDoSpec)) accountsDoUptoCard

/-- THE SECOND FORM's CARD OF 'bazaarlaw13.AccountsKeep'. -/
def accountsKeepUptoCard : Claim7 := { stood := { row := accountsKeepUptoRow, standIns := [], harness := (true, "29e151c98b546d9aa02619735867fe3d4da9f4f5494eba23023cb67f848d4317"), looks := true }, kinds := [], alts := [], laidByText := true, laidKinds := [.sentinel, .sentinel, .sentinel], laidTests := true, laidLooks := .later }
def AccountsKeepUptoCardSaid : Prop := Claim7.holds Tryd.pinned (.plain (OpenSpec.upto accountsKeepSpec)) accountsKeepUptoCard

/-- THE SECOND FORM's CARD OF 'bazaarlaw13.AccountsBytes'. -/
def accountsBytesUptoCard : Claim7 := { stood := { row := accountsBytesUptoRow, standIns := [], harness := (true, "29e151c98b546d9aa02619735867fe3d4da9f4f5494eba23023cb67f848d4317"), looks := true }, kinds := [], alts := [], laidByText := true, laidKinds := [.sentinel, .sentinel, .sentinel], laidTests := true, laidLooks := .later }
def AccountsBytesUptoCardSaid : Prop := Claim7.holds Tryd.pinned (.plain (OpenSpec.upto accountsBytesSpec)) accountsBytesUptoCard

/-- THE SECOND FORM's CARD OF 'bazaarlaw13.AccountsBack'. -/
def accountsBackUptoCard : Claim7 := { stood := { row := accountsBackUptoRow, standIns := [], harness := (true, "29e151c98b546d9aa02619735867fe3d4da9f4f5494eba23023cb67f848d4317"), looks := true }, kinds := [], alts := [], laidByText := true, laidKinds := [.sentinel, .sentinel, .sentinel], laidTests := true, laidLooks := .later }
def AccountsBackUptoCardSaid : Prop := Claim7.holds Tryd.pinned (.plain (OpenSpec.upto accountsBackSpec)) accountsBackUptoCard

/-- THE SECOND FORM's CARD OF 'bazaarlaw12.GoodsBack'. -/
def goodsBackUptoCard : Claim7 := { stood := { row := goodsBackUptoRow, standIns := [], harness := (true, "29e151c98b546d9aa02619735867fe3d4da9f4f5494eba23023cb67f848d4317"), looks := true }, kinds := [], alts := [], laidByText := true, laidKinds := [.sentinel, .sentinel, .sentinel], laidTests := true, laidLooks := .later }
def GoodsBackUptoCardSaid : Prop := Claim7.holds Tryd.pinned (.plain (OpenSpec.upto goodsBackSpec)) goodsBackUptoCard

/-- THE SECOND FORM's CARD OF 'bazaarlaw12.GoodsOwn'. -/
def goodsOwnUptoCard : Claim7 := { stood := { row := goodsOwnUptoRow, standIns := [], harness := (true, "29e151c98b546d9aa02619735867fe3d4da9f4f5494eba23023cb67f848d4317"), looks := true }, kinds := [], alts := [], laidByText := true, laidKinds := [.sentinel, .sentinel, .sentinel], laidTests := true, laidLooks := .later }
def GoodsOwnUptoCardSaid : Prop := Claim7.holds Tryd.pinned (.plain (OpenSpec.upto goodsOwnSpec)) goodsOwnUptoCard

/-- THE SECOND FORM's CARD OF 'bazaarlaw12.GoodsSlots'. -/
def goodsSlotsUptoCard : Claim7 := { stood := { row := goodsSlotsUptoRow, standIns := [], harness := (true, "29e151c98b546d9aa02619735867fe3d4da9f4f5494eba23023cb67f848d4317"), looks := true }, kinds := [], alts := [], laidByText := true, laidKinds := [.sentinel, .sentinel, .sentinel], laidTests := true, laidLooks := .later }
def GoodsSlotsUptoCardSaid : Prop := Claim7.holds Tryd.pinned (.plain (OpenSpec.upto goodsSlotsSpec)) goodsSlotsUptoCard

/-- THE SECOND FORM's CARD OF 'bazaarlaw12.GoodsTwice'. -/
def goodsTwiceUptoCard : Claim7 := { stood := { row := goodsTwiceUptoRow, standIns := [], harness := (true, "29e151c98b546d9aa02619735867fe3d4da9f4f5494eba23023cb67f848d4317"), looks := true }, kinds := [], alts := [], laidByText := true, laidKinds := [.sentinel, .sentinel, .sentinel], laidTests := true, laidLooks := .later }
def GoodsTwiceUptoCardSaid : Prop := Claim7.holds Tryd.pinned (.plain (OpenSpec.upto goodsTwiceSpec)) goodsTwiceUptoCard

/-- THE SECOND FORM's CARD OF 'bazaarlaw12.GoodsDo'. -/
def goodsDoUptoCard : Claim7 := { stood := { row := goodsDoUptoRow, standIns := [], harness := (true, "29e151c98b546d9aa02619735867fe3d4da9f4f5494eba23023cb67f848d4317"), looks := true }, kinds := [], alts := [], laidByText := true, laidKinds := [.sentinel, .sentinel, .sentinel], laidTests := true, laidLooks := .later }
def GoodsDoUptoCardSaid : Prop := Claim7.holds Tryd.pinned (.plain (OpenSpec.upto goodsDoSpec)) goodsDoUptoCard

/-- THE SECOND FORM's CARD OF 'bazaarlaw12.GoodsKeep'. -/
def goodsKeepUptoCard : Claim7 := { stood := { row := goodsKeepUptoRow, standIns := [], harness := (true, "29e151c98b546d9aa02619735867fe3d4da9f4f5494eba23023cb67f848d4317"), looks := true }, kinds := [], alts := [], laidByText := true, laidKinds := [.sentinel, .sentinel, .sentinel], laidTests := true, laidLooks := .later }
def GoodsKeepUptoCardSaid : Prop := Claim7.holds Tryd.pinned (.plain (OpenSpec.upto goodsKeepSpec)) goodsKeepUptoCard
end Rows
end Go.Proofs.YtgnjodocggihoaaDoor
