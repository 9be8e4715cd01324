/-
  DERIVED. GIVEN WITH THE SEED: THE CARDS: each row of YtoclldkgkmhgaaaDoorRows.lean that lists a variable, with what it lists TIED to the program's text (the seventh form; the later family's looks); each row that meets fmt, with fmt's text TOLD by the authors' own Lean function (tested against real Go, not proved from fmt's source: count such statements apart). THE CARD IS WHAT COUNTS. Prove the row's statement (the work); the ties are given (YtoclldkgkmhgaaaDoorTie.lean); close each card by the builder's one call (the guide's Derived/Test/ToyasCard.lean, 'card_holds'). Laid BY PROGRAM, IN A SANDBOX (cutbox-door.mjs). By AI agents, Wed Nov 11 2026. No macro, syntax, notation, axiom, sorry.
-/
import Derived.Test.YtoclldkgkmhgaaaDoorRows
import GoSem.ClaimSeven
namespace Go.Proofs.YtoclldkgkmhgaaaDoor
namespace Rows

/-- THE TIED CARD OF 'bazaarlaw14.MailBytes'. -/
def mailBytesCard : Claim7 := { stood := { row := mailBytesRow, standIns := [], harness := (true, "bd79c57a934a131e1f4b9fdfd322f7b7912f97730362deba32465547a7d30490"), looks := true }, kinds := [], alts := [], laidByText := true, laidKinds := [.sentinel, .sentinel, .sentinel], laidTests := true, laidLooks := .later }
def MailBytesCardSaid : Prop := Claim7.holds Tryd.pinned (.plain (OpenSpec.ofChange mailBytesSpec)) mailBytesCard

/-- THE TIED CARD OF 'bazaarlaw14.MailSizes'. -/
def mailSizesCard : Claim7 := { stood := { row := mailSizesRow, standIns := [], harness := (true, "bd79c57a934a131e1f4b9fdfd322f7b7912f97730362deba32465547a7d30490"), looks := true }, kinds := [], alts := [], laidByText := true, laidKinds := [.sentinel, .sentinel, .sentinel], laidTests := true, laidLooks := .later }
def MailSizesCardSaid : Prop := Claim7.holds Tryd.pinned (.plain (OpenSpec.ofChange mailSizesSpec)) mailSizesCard

/-- THE TIED CARD OF 'bazaarlaw14.MailSends'. -/
def mailSendsCard : Claim7 := { stood := { row := mailSendsRow, standIns := [], harness := (true, "bd79c57a934a131e1f4b9fdfd322f7b7912f97730362deba32465547a7d30490"), looks := true }, kinds := [], alts := [], laidByText := true, laidKinds := [.sentinel, .sentinel, .sentinel], laidTests := true, laidLooks := .later }
def MailSendsCardSaid : Prop := Claim7.holds Tryd.pinned (.plain (OpenSpec.ofChange mailSendsSpec)) mailSendsCard

/-- THE TIED CARD OF 'bazaarlaw14.MailOwn'. -/
def mailOwnCard : Claim7 := { stood := { row := mailOwnRow, standIns := [], harness := (true, "bd79c57a934a131e1f4b9fdfd322f7b7912f97730362deba32465547a7d30490"), looks := true }, kinds := [], alts := [], laidByText := true, laidKinds := [.sentinel, .sentinel, .sentinel], laidTests := true, laidLooks := .later }
def MailOwnCardSaid : Prop := Claim7.holds Tryd.pinned (.plain (OpenSpec.ofChange mailOwnSpec)) mailOwnCard

/-- THE TIED CARD OF 'bazaarlaw14.MailMoves'. -/
def mailMovesCard : Claim7 := { stood := { row := mailMovesRow, standIns := [], harness := (true, "bd79c57a934a131e1f4b9fdfd322f7b7912f97730362deba32465547a7d30490"), looks := true }, kinds := [], alts := [], laidByText := true, laidKinds := [.sentinel, .sentinel, .sentinel], laidTests := true, laidLooks := .later }
def MailMovesCardSaid : Prop := Claim7.holds Tryd.pinned (.plain (OpenSpec.ofChange mailMovesSpec)) mailMovesCard

/-- THE TIED CARD OF 'bazaarlaw14.MailBack'. -/
def mailBackCard : Claim7 := { stood := { row := mailBackRow, standIns := [], harness := (true, "bd79c57a934a131e1f4b9fdfd322f7b7912f97730362deba32465547a7d30490"), looks := true }, kinds := [], alts := [], laidByText := true, laidKinds := [.sentinel, .sentinel, .sentinel], laidTests := true, laidLooks := .later }
def MailBackCardSaid : Prop := Claim7.holds Tryd.pinned (.plain (OpenSpec.ofChange mailBackSpec)) mailBackCard

/-- THE TIED CARD OF 'bazaarlaw15.ShopKeeps'. -/
def shopKeepsCard : Claim7 := { stood := { row := shopKeepsRow, standIns := [], harness := (true, "bd79c57a934a131e1f4b9fdfd322f7b7912f97730362deba32465547a7d30490"), looks := true }, kinds := [], alts := [], laidByText := true, laidKinds := [.sentinel, .sentinel, .sentinel], laidTests := true, laidLooks := .later }
def ShopKeepsCardSaid : Prop := Claim7.holds Tryd.pinned (.plain (OpenSpec.ofChange shopKeepsSpec)) shopKeepsCard

/-- THE TIED CARD OF 'bazaarlaw15.ShopDoes'. -/
def shopDoesCard : Claim7 := { stood := { row := shopDoesRow, standIns := [], harness := (true, "bd79c57a934a131e1f4b9fdfd322f7b7912f97730362deba32465547a7d30490"), looks := true }, kinds := [], alts := [], laidByText := true, laidKinds := [.sentinel, .sentinel, .sentinel], laidTests := true, laidLooks := .later }
def ShopDoesCardSaid : Prop := Claim7.holds Tryd.pinned (.plain (OpenSpec.ofChange shopDoesSpec)) shopDoesCard

/-- THE TIED CARD OF 'bazaarlaw15.ShopOwn'. -/
def shopOwnCard : Claim7 := { stood := { row := shopOwnRow, standIns := [], harness := (true, "bd79c57a934a131e1f4b9fdfd322f7b7912f97730362deba32465547a7d30490"), looks := true }, kinds := [], alts := [], laidByText := true, laidKinds := [.sentinel, .sentinel, .sentinel], laidTests := true, laidLooks := .later }
def ShopOwnCardSaid : Prop := Claim7.holds Tryd.pinned (.plain (OpenSpec.ofChange shopOwnSpec)) shopOwnCard

/-- THE TIED CARD OF 'bazaarlaw15.ShopBytes'. -/
def shopBytesCard : Claim7 := { stood := { row := shopBytesRow, standIns := [], harness := (true, "bd79c57a934a131e1f4b9fdfd322f7b7912f97730362deba32465547a7d30490"), looks := true }, kinds := [], alts := [], laidByText := true, laidKinds := [.sentinel, .sentinel, .sentinel], laidTests := true, laidLooks := .later }
def ShopBytesCardSaid : Prop := Claim7.holds Tryd.pinned (.plain (OpenSpec.ofChange shopBytesSpec)) shopBytesCard

/-- THE TIED CARD OF 'bazaarlaw15.ShopSizes'. -/
def shopSizesCard : Claim7 := { stood := { row := shopSizesRow, standIns := [], harness := (true, "bd79c57a934a131e1f4b9fdfd322f7b7912f97730362deba32465547a7d30490"), looks := true }, kinds := [], alts := [], laidByText := true, laidKinds := [.sentinel, .sentinel, .sentinel], laidTests := true, laidLooks := .later }
def ShopSizesCardSaid : Prop := Claim7.holds Tryd.pinned (.plain (OpenSpec.ofChange shopSizesSpec)) shopSizesCard

/-- THE TIED CARD OF 'bazaarlaw15.ShopBack'. -/
def shopBackCard : Claim7 := { stood := { row := shopBackRow, standIns := [], harness := (true, "bd79c57a934a131e1f4b9fdfd322f7b7912f97730362deba32465547a7d30490"), looks := true }, kinds := [], alts := [], laidByText := true, laidKinds := [.sentinel, .sentinel, .sentinel], laidTests := true, laidLooks := .later }
def ShopBackCardSaid : Prop := Claim7.holds Tryd.pinned (.plain (OpenSpec.ofChange shopBackSpec)) shopBackCard

/-- THE SECOND FORM's CARD OF 'bazaarlaw14.MailBytes'. -/
def mailBytesUptoCard : Claim7 := { stood := { row := mailBytesUptoRow, standIns := [], harness := (true, "bd79c57a934a131e1f4b9fdfd322f7b7912f97730362deba32465547a7d30490"), looks := true }, kinds := [], alts := [], laidByText := true, laidKinds := [.sentinel, .sentinel, .sentinel], laidTests := true, laidLooks := .later }
def MailBytesUptoCardSaid : Prop := Claim7.holds Tryd.pinned (.plain (OpenSpec.upto mailBytesSpec)) mailBytesUptoCard

/-- THE SECOND FORM's CARD OF 'bazaarlaw14.MailSizes'. -/
def mailSizesUptoCard : Claim7 := { stood := { row := mailSizesUptoRow, standIns := [], harness := (true, "bd79c57a934a131e1f4b9fdfd322f7b7912f97730362deba32465547a7d30490"), looks := true }, kinds := [], alts := [], laidByText := true, laidKinds := [.sentinel, .sentinel, .sentinel], laidTests := true, laidLooks := .later }
def MailSizesUptoCardSaid : Prop := Claim7.holds Tryd.pinned (.plain (OpenSpec.upto mailSizesSpec)) mailSizesUptoCard

/-- THE SECOND FORM's CARD OF 'bazaarlaw14.MailSends'. -/
def mailSendsUptoCard : Claim7 := { stood := { row := mailSendsUptoRow, standIns := [], harness := (true, "bd79c57a934a131e1f4b9fdfd322f7b7912f97730362deba32465547a7d30490"), looks := true }, kinds := [], alts := [], laidByText := true, laidKinds := [.sentinel, .sentinel, .sentinel], laidTests := true, laidLooks := .later }
def MailSendsUptoCardSaid : Prop := Claim7.holds Tryd.pinned (.plain (OpenSpec.upto mailSendsSpec)) mailSendsUptoCard

/-- THE SECOND FORM's CARD OF 'bazaarlaw14.MailOwn'. -/
def mailOwnUptoCard : Claim7 := { stood := { row := mailOwnUptoRow, standIns := [], harness := (true, "bd79c57a934a131e1f4b9fdfd322f7b7912f97730362deba32465547a7d30490"), looks := true }, kinds := [], alts := [], laidByText := true, laidKinds := [.sentinel, .sentinel, .sentinel], laidTests := true, laidLooks := .later }
def MailOwnUptoCardSaid : Prop := Claim7.holds Tryd.pinned (.plain (OpenSpec.upto mailOwnSpec)) mailOwnUptoCard

/-- THE SECOND FORM's CARD OF 'bazaarlaw14.MailMoves'. -/
def mailMovesUptoCard : Claim7 := { stood := { row := mailMovesUptoRow, standIns := [], harness := (true, "bd79c57a934a131e1f4b9fdfd322f7b7912f97730362deba32465547a7d30490"), looks := true }, kinds := [], alts := [], laidByText := true, laidKinds := [.sentinel, .sentinel, .sentinel], laidTests := true, laidLooks := .later }
def MailMovesUptoCardSaid : Prop := Claim7.holds Tryd.pinned (.plain (OpenSpec.upto mailMovesSpec)) mailMovesUptoCard

/-- THE SECOND FORM's CARD OF 'bazaarlaw14.MailBack'. -/
def mailBackUptoCard : Claim7 := { stood := { row := mailBackUptoRow, standIns := [], harness := (true, "bd79c57a934a131e1f4b9fdfd322f7b7912f97730362deba32465547a7d30490"), looks := true }, kinds := [], alts := [], laidByText := true, laidKinds := [.sentinel, .sentinel, .sentinel], laidTests := true, laidLooks := .later }
def MailBackUptoCardSaid : Prop := Claim7.holds Tryd.pinned (.plain (OpenSpec.upto mailBackSpec)) mailBackUptoCard

/-- THE SECOND FORM's CARD OF 'bazaarlaw15.ShopKeeps'. -/
def shopKeepsUptoCard : Claim7 := { stood := { row := shopKeepsUptoRow, standIns := [], harness := (true, "bd79c57a934a131e1f4b9fdfd322f7b7912f97730362deba32465547a7d30490"), looks := true }, kinds := [], alts := [], laidByText := true, laidKinds := [.sentinel, .sentinel, .sentinel], laidTests := true, laidLooks := .later }
def ShopKeepsUptoCardSaid : Prop := Claim7.holds Tryd.pinned (.plain (OpenSpec.upto shopKeepsSpec)) shopKeepsUptoCard

/-- THE SECOND FORM's CARD OF 'bazaarlaw15.ShopDoes'. -/
def shopDoesUptoCard : Claim7 := { stood := { row := shopDoesUptoRow, standIns := [], harness := (true, "bd79c57a934a131e1f4b9fdfd322f7b7912f97730362deba32465547a7d30490"), looks := true }, kinds := [], alts := [], laidByText := true, laidKinds := [.sentinel, .sentinel, .sentinel], laidTests := true, laidLooks := .later }
def ShopDoesUptoCardSaid : Prop := Claim7.holds Tryd.pinned (.plain (OpenSpec.upto shopDoesSpec)) shopDoesUptoCard

/-- THE SECOND FORM's CARD OF 'bazaarlaw15.ShopOwn'. -/
def shopOwnUptoCard : Claim7 := { stood := { row := shopOwnUptoRow, standIns := [], harness := (true, "bd79c57a934a131e1f4b9fdfd322f7b7912f97730362deba32465547a7d30490"), looks := true }, kinds := [], alts := [], laidByText := true, laidKinds := [.sentinel, .sentinel, .sentinel], laidTests := true, laidLooks := .later }
def ShopOwnUptoCardSaid : Prop := Claim7.holds Tryd.pinned (.plain (OpenSpec.upto shopOwnSpec)) shopOwnUptoCard

/-- THE SECOND FORM's CARD OF 'bazaarlaw15.ShopBytes'. -/
def shopBytesUptoCard : Claim7 := { stood := { row := shopBytesUptoRow, standIns := [], harness := (true, "bd79c57a934a131e1f4b9fdfd322f7b7912f97730362deba32465547a7d30490"), looks := true }, kinds := [], alts := [], laidByText := true, laidKinds := [.sentinel, .sentinel, .sentinel], laidTests := true, laidLooks := .later }
def ShopBytesUptoCardSaid : Prop := Claim7.holds Tryd.pinned (.plain (OpenSpec.upto shopBytesSpec)) shopBytesUptoCard

/-- THE SECOND FORM's CARD OF 'bazaarlaw15.ShopSizes'. -/
def shopSizesUptoCard : Claim7 := { stood := { row := shopSizesUptoRow, standIns := [], harness := (true, "bd79c57a934a131e1f4b9fdfd322f7b7912f97730362deba32465547a7d30490"), looks := true }, kinds := [], alts := [], laidByText := true, laidKinds := [.sentinel, .sentinel, .sentinel], laidTests := true, laidLooks := .later }
def ShopSizesUptoCardSaid : Prop := Claim7.holds Tryd.pinned (.plain (OpenSpec.upto shopSizesSpec)) shopSizesUptoCard

/-- THE SECOND FORM's CARD OF 'bazaarlaw15.ShopBack'. -/
def shopBackUptoCard : Claim7 := { stood := { row := shopBackUptoRow, standIns := [], harness := (true, "bd79c57a934a131e1f4b9fdfd322f7b7912f97730362deba32465547a7d30490"), looks := true }, kinds := [], alts := [], laidByText := true, laidKinds := [.sentinel, .sentinel, .sentinel], laidTests := true, laidLooks := .later }
def ShopBackUptoCardSaid : Prop := Claim7.holds Tryd.pinned (.plain (OpenSpec.upto shopBackSpec)) shopBackUptoCard
end Rows
end Go.Proofs.YtoclldkgkmhgaaaDoor
