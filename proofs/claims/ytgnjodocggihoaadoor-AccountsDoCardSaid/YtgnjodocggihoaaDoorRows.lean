/-
  NARROWER THAN 'FOR EVERY INPUT', by the rows' own cells (each row's printed sentence says how): AccountsTwice: laid · AccountsTurn: laid · AccountsDo: laid · AccountsKeep: laid · AccountsBytes: laid · AccountsBack: laid · GoodsBack: laid · GoodsOwn: laid · GoodsSlots: laid · GoodsTwice: laid · GoodsDo: laid · GoodsKeep: laid.
  DERIVED. THE GIVEN ROWS OF THIS SEAT. 12 by the template 'for every input the law returns true; each argument reads behind the call as it read before'; 0 by the template 'total and deterministic' (their statements: YtgnjodocggihoaaDoorTotals.lean).
  GIVEN WITH THE SEED: the statements are not yours to turn. If you find one false, say at which input.
  Laid BY PROGRAM, IN A SANDBOX (cutbox-rows.mjs): the forced cells as the released guide's own fill.sh prints them over the translation b5a77687e4df1158… (all of the seat's roots in one cut). By AI agents, Wed Nov 11 2026. No macro, syntax, notation, axiom, sorry.
-/
import Derived.Test.YtgnjodocggihoaaDoorChecked
import GoSem.Claim
import GoSem.ClaimJoined
import GoSem.ClaimMapViews
import Derived.JoinedTies
import Derived.KernelRfl
namespace Go.Proofs.YtgnjodocggihoaaDoor
/- THE CELL 'sum', in the pinned program and in every row, IS THE sha256 OF THE DUMP (.gsa) THAT YtgnjodocggihoaaDoorProg.lean LOADS. Nothing in Lean hashes anything: it is a label: what it is worth is what the hold of that sum in a sandbox is worth. -/
noncomputable def Tryd.pinned : Pinned := { name := "ytgnjodocggihoaadoor", sum := "b5a77687e4df11589e3ca915adb364b9943c2deffdbfd68bd39d7e6f56c17329", checked := Tryd.checked }
namespace Rows
def none {H : Type} : Left H := { results := [], args := [] }

/- WHAT THE LISTED PACKAGE-LEVEL VARIABLES READ AS WHEN THE CALL BEGINS. Each datum BY PROGRAM (the guide's laid-datum.mjs) off the statement by which the dump's own 'gosem.cut.vars' lays the variable. In a bare row this is a premise. The card (YtgnjodocggihoaaDoorCards.lean) ties it to the program's text. -/
def laid_bazaar_money_errAmount {H : Type} : DataW H := .iface "*errors.errorString" (.ptr (.agg [.lit (.string [110, 111, 32, 97, 109, 111, 117, 110, 116])]))
def laid_bazaar_money_errOverflow {H : Type} : DataW H := .iface "*errors.errorString" (.ptr (.agg [.lit (.string [116, 111, 111, 32, 109, 117, 99, 104])]))
def laid_bazaar_money_errFunds {H : Type} : DataW H := .iface "*errors.errorString" (.ptr (.agg [.lit (.string [116, 111, 111, 32, 108, 105, 116, 116, 108, 101])]))

/-- 'bazaarlaw13.AccountsTwice': WHATEVER THE INPUT: true; the input reads as it did. -/
def accountsTwiceSpec : ChangeSpec := { name := "accountsTwice", fn := fun _ => fun
  | [d1, d2, d3] => { results := [.lit (.bool true)], args := [d1, d2, d3] }
  | _ => none }
def accountsTwiceRow : OpenClaim := { program := "ytgnjodocggihoaadoor", sum := "b5a77687e4df11589e3ca915adb364b9943c2deffdbfd68bd39d7e6f56c17329", func := "bazaar/bazaarlaw13.AccountsTwice", spec := "accountsTwice", inPlace := ["internal/reflectlite.TypeOf"], unfollowed := true, recurses := true, named := ["bazaar/money.errFunds", "bazaar/money.errAmount", "bazaar/money.errOverflow"], apart := false, laid := [("bazaar/money.errAmount", laid_bazaar_money_errAmount), ("bazaar/money.errOverflow", laid_bazaar_money_errOverflow), ("bazaar/money.errFunds", laid_bazaar_money_errFunds)] }
def AccountsTwiceSaid : Prop := accountsTwiceRow.holds Tryd.pinned (OpenSpec.ofChange accountsTwiceSpec)

/-- ITS FALSE NEIGHBOUR: 'it returns false'. Refute it at one input. -/
def accountsTwiceWrong : ChangeSpec := { name := "accountsTwice", fn := fun _ => fun
  | [d1, d2, d3] => { results := [.lit (.bool false)], args := [d1, d2, d3] }
  | _ => none }
def AccountsTwiceWrongFalsely : Prop := accountsTwiceRow.holds Tryd.pinned (OpenSpec.ofChange accountsTwiceWrong)

/-- 'bazaarlaw13.AccountsTurn': WHATEVER THE INPUT: true; the input reads as it did. -/
def accountsTurnSpec : ChangeSpec := { name := "accountsTurn", fn := fun _ => fun
  | [d1, d2] => { results := [.lit (.bool true)], args := [d1, d2] }
  | _ => none }
def accountsTurnRow : OpenClaim := { program := "ytgnjodocggihoaadoor", sum := "b5a77687e4df11589e3ca915adb364b9943c2deffdbfd68bd39d7e6f56c17329", func := "bazaar/bazaarlaw13.AccountsTurn", spec := "accountsTurn", inPlace := ["internal/reflectlite.TypeOf"], unfollowed := true, recurses := true, named := ["bazaar/money.errFunds", "bazaar/money.errAmount", "bazaar/money.errOverflow"], apart := false, laid := [("bazaar/money.errAmount", laid_bazaar_money_errAmount), ("bazaar/money.errOverflow", laid_bazaar_money_errOverflow), ("bazaar/money.errFunds", laid_bazaar_money_errFunds)] }
def AccountsTurnSaid : Prop := accountsTurnRow.holds Tryd.pinned (OpenSpec.ofChange accountsTurnSpec)

/-- ITS FALSE NEIGHBOUR: 'it returns false'. Refute it at one input. -/
def accountsTurnWrong : ChangeSpec := { name := "accountsTurn", fn := fun _ => fun
  | [d1, d2] => { results := [.lit (.bool false)], args := [d1, d2] }
  | _ => none }
def AccountsTurnWrongFalsely : Prop := accountsTurnRow.holds Tryd.pinned (OpenSpec.ofChange accountsTurnWrong)

/-- 'bazaarlaw13.AccountsDo': WHATEVER THE INPUT: true; the input reads as it did. -/
def accountsDoSpec : ChangeSpec := { name := "accountsDo", fn := fun _ => fun
  | [d1, d2, d3] => { results := [.lit (.bool true)], args := [d1, d2, d3] }
  | _ => none }
def accountsDoRow : OpenClaim := { program := "ytgnjodocggihoaadoor", sum := "b5a77687e4df11589e3ca915adb364b9943c2deffdbfd68bd39d7e6f56c17329", func := "bazaar/bazaarlaw13.AccountsDo", spec := "accountsDo", inPlace := ["internal/reflectlite.TypeOf"], unfollowed := true, recurses := true, named := ["bazaar/money.errFunds", "bazaar/money.errAmount", "bazaar/money.errOverflow"], apart := false, laid := [("bazaar/money.errAmount", laid_bazaar_money_errAmount), ("bazaar/money.errOverflow", laid_bazaar_money_errOverflow), ("bazaar/money.errFunds", laid_bazaar_money_errFunds)] }
def AccountsDoSaid : Prop := accountsDoRow.holds Tryd.pinned (OpenSpec.ofChange accountsDoSpec)

/-- ITS FALSE NEIGHBOUR: 'it returns false'. Refute it at one input. -/
def accountsDoWrong : ChangeSpec := { name := "accountsDo", fn := fun _ => fun
  | [d1, d2, d3] => { results := [.lit (.bool false)], args := [d1, d2, d3] }
  | _ => none }
def AccountsDoWrongFalsely : Prop := accountsDoRow.holds Tryd.pinned (OpenSpec.ofChange accountsDoWrong)

/-- 'bazaarlaw13.AccountsKeep': WHATEVER THE INPUT: true; the input reads as it did. -/
def accountsKeepSpec : ChangeSpec := { name := "accountsKeep", fn := fun _ => fun
  | [d1, d2, d3] => { results := [.lit (.bool true)], args := [d1, d2, d3] }
  | _ => none }
def accountsKeepRow : OpenClaim := { program := "ytgnjodocggihoaadoor", sum := "b5a77687e4df11589e3ca915adb364b9943c2deffdbfd68bd39d7e6f56c17329", func := "bazaar/bazaarlaw13.AccountsKeep", spec := "accountsKeep", inPlace := ["internal/reflectlite.TypeOf"], unfollowed := true, recurses := true, named := ["bazaar/money.errFunds", "bazaar/money.errAmount", "bazaar/money.errOverflow"], apart := false, laid := [("bazaar/money.errAmount", laid_bazaar_money_errAmount), ("bazaar/money.errOverflow", laid_bazaar_money_errOverflow), ("bazaar/money.errFunds", laid_bazaar_money_errFunds)] }
def AccountsKeepSaid : Prop := accountsKeepRow.holds Tryd.pinned (OpenSpec.ofChange accountsKeepSpec)

/-- ITS FALSE NEIGHBOUR: 'it returns false'. Refute it at one input. -/
def accountsKeepWrong : ChangeSpec := { name := "accountsKeep", fn := fun _ => fun
  | [d1, d2, d3] => { results := [.lit (.bool false)], args := [d1, d2, d3] }
  | _ => none }
def AccountsKeepWrongFalsely : Prop := accountsKeepRow.holds Tryd.pinned (OpenSpec.ofChange accountsKeepWrong)

/-- 'bazaarlaw13.AccountsBytes': WHATEVER THE INPUT: true; the input reads as it did. -/
def accountsBytesSpec : ChangeSpec := { name := "accountsBytes", fn := fun _ => fun
  | [d1, d2] => { results := [.lit (.bool true)], args := [d1, d2] }
  | _ => none }
def accountsBytesRow : OpenClaim := { program := "ytgnjodocggihoaadoor", sum := "b5a77687e4df11589e3ca915adb364b9943c2deffdbfd68bd39d7e6f56c17329", func := "bazaar/bazaarlaw13.AccountsBytes", spec := "accountsBytes", inPlace := ["internal/reflectlite.TypeOf"], unfollowed := true, recurses := true, named := ["bazaar/money.errFunds", "bazaar/money.errAmount", "bazaar/money.errOverflow"], apart := false, laid := [("bazaar/money.errAmount", laid_bazaar_money_errAmount), ("bazaar/money.errOverflow", laid_bazaar_money_errOverflow), ("bazaar/money.errFunds", laid_bazaar_money_errFunds)] }
def AccountsBytesSaid : Prop := accountsBytesRow.holds Tryd.pinned (OpenSpec.ofChange accountsBytesSpec)

/-- ITS FALSE NEIGHBOUR: 'it returns false'. Refute it at one input. -/
def accountsBytesWrong : ChangeSpec := { name := "accountsBytes", fn := fun _ => fun
  | [d1, d2] => { results := [.lit (.bool false)], args := [d1, d2] }
  | _ => none }
def AccountsBytesWrongFalsely : Prop := accountsBytesRow.holds Tryd.pinned (OpenSpec.ofChange accountsBytesWrong)

/-- 'bazaarlaw13.AccountsBack': WHATEVER THE INPUT: true; the input reads as it did. -/
def accountsBackSpec : ChangeSpec := { name := "accountsBack", fn := fun _ => fun
  | [d1, d2] => { results := [.lit (.bool true)], args := [d1, d2] }
  | _ => none }
def accountsBackRow : OpenClaim := { program := "ytgnjodocggihoaadoor", sum := "b5a77687e4df11589e3ca915adb364b9943c2deffdbfd68bd39d7e6f56c17329", func := "bazaar/bazaarlaw13.AccountsBack", spec := "accountsBack", inPlace := ["internal/reflectlite.TypeOf"], unfollowed := true, recurses := true, named := ["bazaar/money.errFunds", "bazaar/money.errAmount", "bazaar/money.errOverflow"], apart := false, laid := [("bazaar/money.errAmount", laid_bazaar_money_errAmount), ("bazaar/money.errOverflow", laid_bazaar_money_errOverflow), ("bazaar/money.errFunds", laid_bazaar_money_errFunds)] }
def AccountsBackSaid : Prop := accountsBackRow.holds Tryd.pinned (OpenSpec.ofChange accountsBackSpec)

/-- ITS FALSE NEIGHBOUR: 'it returns false'. Refute it at one input. -/
def accountsBackWrong : ChangeSpec := { name := "accountsBack", fn := fun _ => fun
  | [d1, d2] => { results := [.lit (.bool false)], args := [d1, d2] }
  | _ => none }
def AccountsBackWrongFalsely : Prop := accountsBackRow.holds Tryd.pinned (OpenSpec.ofChange accountsBackWrong)

/-- 'bazaarlaw12.GoodsBack': WHATEVER THE INPUT: true; the input reads as it did. -/
def goodsBackSpec : ChangeSpec := { name := "goodsBack", fn := fun _ => fun
  | [d1, d2] => { results := [.lit (.bool true)], args := [d1, d2] }
  | _ => none }
def goodsBackRow : OpenClaim := { program := "ytgnjodocggihoaadoor", sum := "b5a77687e4df11589e3ca915adb364b9943c2deffdbfd68bd39d7e6f56c17329", func := "bazaar/bazaarlaw12.GoodsBack", spec := "goodsBack", inPlace := ["internal/reflectlite.TypeOf"], unfollowed := true, recurses := true, named := ["bazaar/money.errOverflow", "bazaar/money.errAmount", "bazaar/money.errFunds"], apart := false, laid := [("bazaar/money.errAmount", laid_bazaar_money_errAmount), ("bazaar/money.errOverflow", laid_bazaar_money_errOverflow), ("bazaar/money.errFunds", laid_bazaar_money_errFunds)] }
def GoodsBackSaid : Prop := goodsBackRow.holds Tryd.pinned (OpenSpec.ofChange goodsBackSpec)

/-- ITS FALSE NEIGHBOUR: 'it returns false'. Refute it at one input. -/
def goodsBackWrong : ChangeSpec := { name := "goodsBack", fn := fun _ => fun
  | [d1, d2] => { results := [.lit (.bool false)], args := [d1, d2] }
  | _ => none }
def GoodsBackWrongFalsely : Prop := goodsBackRow.holds Tryd.pinned (OpenSpec.ofChange goodsBackWrong)

/-- 'bazaarlaw12.GoodsOwn': WHATEVER THE INPUT: true; the input reads as it did. -/
def goodsOwnSpec : ChangeSpec := { name := "goodsOwn", fn := fun _ => fun
  | [d1, d2] => { results := [.lit (.bool true)], args := [d1, d2] }
  | _ => none }
def goodsOwnRow : OpenClaim := { program := "ytgnjodocggihoaadoor", sum := "b5a77687e4df11589e3ca915adb364b9943c2deffdbfd68bd39d7e6f56c17329", func := "bazaar/bazaarlaw12.GoodsOwn", spec := "goodsOwn", inPlace := ["internal/reflectlite.TypeOf"], unfollowed := true, recurses := true, named := ["bazaar/money.errOverflow", "bazaar/money.errAmount", "bazaar/money.errFunds"], apart := false, laid := [("bazaar/money.errAmount", laid_bazaar_money_errAmount), ("bazaar/money.errOverflow", laid_bazaar_money_errOverflow), ("bazaar/money.errFunds", laid_bazaar_money_errFunds)] }
def GoodsOwnSaid : Prop := goodsOwnRow.holds Tryd.pinned (OpenSpec.ofChange goodsOwnSpec)

/-- ITS FALSE NEIGHBOUR: 'it returns false'. Refute it at one input. -/
def goodsOwnWrong : ChangeSpec := { name := "goodsOwn", fn := fun _ => fun
  | [d1, d2] => { results := [.lit (.bool false)], args := [d1, d2] }
  | _ => none }
def GoodsOwnWrongFalsely : Prop := goodsOwnRow.holds Tryd.pinned (OpenSpec.ofChange goodsOwnWrong)

/-- 'bazaarlaw12.GoodsSlots': WHATEVER THE INPUT: true; the input reads as it did. -/
def goodsSlotsSpec : ChangeSpec := { name := "goodsSlots", fn := fun _ => fun
  | [d1, d2] => { results := [.lit (.bool true)], args := [d1, d2] }
  | _ => none }
def goodsSlotsRow : OpenClaim := { program := "ytgnjodocggihoaadoor", sum := "b5a77687e4df11589e3ca915adb364b9943c2deffdbfd68bd39d7e6f56c17329", func := "bazaar/bazaarlaw12.GoodsSlots", spec := "goodsSlots", inPlace := ["internal/reflectlite.TypeOf"], unfollowed := true, recurses := true, named := ["bazaar/money.errOverflow", "bazaar/money.errAmount", "bazaar/money.errFunds"], apart := false, laid := [("bazaar/money.errAmount", laid_bazaar_money_errAmount), ("bazaar/money.errOverflow", laid_bazaar_money_errOverflow), ("bazaar/money.errFunds", laid_bazaar_money_errFunds)] }
def GoodsSlotsSaid : Prop := goodsSlotsRow.holds Tryd.pinned (OpenSpec.ofChange goodsSlotsSpec)

/-- ITS FALSE NEIGHBOUR: 'it returns false'. Refute it at one input. -/
def goodsSlotsWrong : ChangeSpec := { name := "goodsSlots", fn := fun _ => fun
  | [d1, d2] => { results := [.lit (.bool false)], args := [d1, d2] }
  | _ => none }
def GoodsSlotsWrongFalsely : Prop := goodsSlotsRow.holds Tryd.pinned (OpenSpec.ofChange goodsSlotsWrong)

/-- 'bazaarlaw12.GoodsTwice': WHATEVER THE INPUT: true; the input reads as it did. -/
def goodsTwiceSpec : ChangeSpec := { name := "goodsTwice", fn := fun _ => fun
  | [d1, d2, d3, d4] => { results := [.lit (.bool true)], args := [d1, d2, d3, d4] }
  | _ => none }
def goodsTwiceRow : OpenClaim := { program := "ytgnjodocggihoaadoor", sum := "b5a77687e4df11589e3ca915adb364b9943c2deffdbfd68bd39d7e6f56c17329", func := "bazaar/bazaarlaw12.GoodsTwice", spec := "goodsTwice", inPlace := ["internal/reflectlite.TypeOf"], unfollowed := true, recurses := true, named := ["bazaar/money.errOverflow", "bazaar/money.errAmount", "bazaar/money.errFunds"], apart := false, laid := [("bazaar/money.errAmount", laid_bazaar_money_errAmount), ("bazaar/money.errOverflow", laid_bazaar_money_errOverflow), ("bazaar/money.errFunds", laid_bazaar_money_errFunds)] }
def GoodsTwiceSaid : Prop := goodsTwiceRow.holds Tryd.pinned (OpenSpec.ofChange goodsTwiceSpec)

/-- ITS FALSE NEIGHBOUR: 'it returns false'. Refute it at one input. -/
def goodsTwiceWrong : ChangeSpec := { name := "goodsTwice", fn := fun _ => fun
  | [d1, d2, d3, d4] => { results := [.lit (.bool false)], args := [d1, d2, d3, d4] }
  | _ => none }
def GoodsTwiceWrongFalsely : Prop := goodsTwiceRow.holds Tryd.pinned (OpenSpec.ofChange goodsTwiceWrong)

/-- 'bazaarlaw12.GoodsDo': WHATEVER THE INPUT: true; the input reads as it did. -/
def goodsDoSpec : ChangeSpec := { name := "goodsDo", fn := fun _ => fun
  | [d1, d2, d3] => { results := [.lit (.bool true)], args := [d1, d2, d3] }
  | _ => none }
def goodsDoRow : OpenClaim := { program := "ytgnjodocggihoaadoor", sum := "b5a77687e4df11589e3ca915adb364b9943c2deffdbfd68bd39d7e6f56c17329", func := "bazaar/bazaarlaw12.GoodsDo", spec := "goodsDo", inPlace := ["internal/reflectlite.TypeOf"], unfollowed := true, recurses := true, named := ["bazaar/money.errOverflow", "bazaar/money.errAmount", "bazaar/money.errFunds"], apart := false, laid := [("bazaar/money.errAmount", laid_bazaar_money_errAmount), ("bazaar/money.errOverflow", laid_bazaar_money_errOverflow), ("bazaar/money.errFunds", laid_bazaar_money_errFunds)] }
def GoodsDoSaid : Prop := goodsDoRow.holds Tryd.pinned (OpenSpec.ofChange goodsDoSpec)

/-- ITS FALSE NEIGHBOUR: 'it returns false'. Refute it at one input. -/
def goodsDoWrong : ChangeSpec := { name := "goodsDo", fn := fun _ => fun
  | [d1, d2, d3] => { results := [.lit (.bool false)], args := [d1, d2, d3] }
  | _ => none }
def GoodsDoWrongFalsely : Prop := goodsDoRow.holds Tryd.pinned (OpenSpec.ofChange goodsDoWrong)

/-- 'bazaarlaw12.GoodsKeep': WHATEVER THE INPUT: true; the input reads as it did. -/
def goodsKeepSpec : ChangeSpec := { name := "goodsKeep", fn := fun _ => fun
  | [d1, d2, d3, d4] => { results := [.lit (.bool true)], args := [d1, d2, d3, d4] }
  | _ => none }
def goodsKeepRow : OpenClaim := { program := "ytgnjodocggihoaadoor", sum := "b5a77687e4df11589e3ca915adb364b9943c2deffdbfd68bd39d7e6f56c17329", func := "bazaar/bazaarlaw12.GoodsKeep", spec := "goodsKeep", inPlace := ["internal/reflectlite.TypeOf"], unfollowed := true, recurses := true, named := ["bazaar/money.errOverflow", "bazaar/money.errAmount", "bazaar/money.errFunds"], apart := false, laid := [("bazaar/money.errAmount", laid_bazaar_money_errAmount), ("bazaar/money.errOverflow", laid_bazaar_money_errOverflow), ("bazaar/money.errFunds", laid_bazaar_money_errFunds)] }
def GoodsKeepSaid : Prop := goodsKeepRow.holds Tryd.pinned (OpenSpec.ofChange goodsKeepSpec)

/-- ITS FALSE NEIGHBOUR: 'it returns false'. Refute it at one input. -/
def goodsKeepWrong : ChangeSpec := { name := "goodsKeep", fn := fun _ => fun
  | [d1, d2, d3, d4] => { results := [.lit (.bool false)], args := [d1, d2, d3, d4] }
  | _ => none }
def GoodsKeepWrongFalsely : Prop := goodsKeepRow.holds Tryd.pinned (OpenSpec.ofChange goodsKeepWrong)

/- THE SECOND FORM. 'bulk': how many values and letters a reading holds, each counted each time it is reached (what is shared counts as often as it is met; a slice's spare places count too). A statement '..UptoSaid' is the law's where the arguments, and the package variables that the reading takes, are together of bulk at most 1048576: NARROWER than '..Said'. Prove '..Said' where nothing that the law and all that it calls make is longer than what came in: it says more and counts as full. Else prove '..UptoSaid'. A law counts once. -/
mutual
def uptoBulk {H : Type} : DataW H → Nat
  | .lit (.string bytes) => bytes.length + 1
  | .lit _ => 1
  | .nil => 1
  | .ptr d => uptoBulk d + 1
  | .slice elems spare => uptoBulkAll elems + uptoBulkAll spare + 1
  | .agg parts => uptoBulkAll parts + 1
  | .iface _ d => uptoBulk d + 1
  | .map entries => uptoBulkEntries entries + 1
  | .held _ => 1
def uptoBulkAll {H : Type} : List (DataW H) → Nat
  | [] => 0
  | d :: r => uptoBulk d + uptoBulkAll r
def uptoBulkEntries {H : Type} : List (Lit × DataW H) → Nat
  | [] => 0
  | x :: r => uptoBulkEntry x + uptoBulkEntries r
def uptoBulkEntry {H : Type} : Lit × DataW H → Nat
  | (.string bytes, d) => bytes.length + uptoBulk d + 1
  | (_, d) => uptoBulk d + 1
 end
def uptoSmall : (H : Type) → List (DataW H) → Bool := fun _ ds => decide (uptoBulkAll ds ≤ 1048576)
def OpenSpec.upto (s : _root_.Go.ChangeSpec) : _root_.Go.OpenSpec := { _root_.Go.OpenSpec.ofChange s with cond := some uptoSmall }

/-- 'bazaarlaw13.AccountsTwice', WHERE WHAT IT READS IS OF BULK AT MOST 1048576: true; the input reads as it did. -/
def accountsTwiceUptoRow : OpenClaim := { program := "ytgnjodocggihoaadoor", sum := "b5a77687e4df11589e3ca915adb364b9943c2deffdbfd68bd39d7e6f56c17329", func := "bazaar/bazaarlaw13.AccountsTwice", spec := "accountsTwice", inPlace := ["internal/reflectlite.TypeOf"], unfollowed := true, recurses := true, named := ["bazaar/money.errFunds", "bazaar/money.errAmount", "bazaar/money.errOverflow"], apart := false, laid := [("bazaar/money.errAmount", laid_bazaar_money_errAmount), ("bazaar/money.errOverflow", laid_bazaar_money_errOverflow), ("bazaar/money.errFunds", laid_bazaar_money_errFunds)], narrowed := true }
def AccountsTwiceUptoSaid : Prop := accountsTwiceUptoRow.holds Tryd.pinned (OpenSpec.upto accountsTwiceSpec)

/-- 'bazaarlaw13.AccountsTurn', WHERE WHAT IT READS IS OF BULK AT MOST 1048576: true; the input reads as it did. -/
def accountsTurnUptoRow : OpenClaim := { program := "ytgnjodocggihoaadoor", sum := "b5a77687e4df11589e3ca915adb364b9943c2deffdbfd68bd39d7e6f56c17329", func := "bazaar/bazaarlaw13.AccountsTurn", spec := "accountsTurn", inPlace := ["internal/reflectlite.TypeOf"], unfollowed := true, recurses := true, named := ["bazaar/money.errFunds", "bazaar/money.errAmount", "bazaar/money.errOverflow"], apart := false, laid := [("bazaar/money.errAmount", laid_bazaar_money_errAmount), ("bazaar/money.errOverflow", laid_bazaar_money_errOverflow), ("bazaar/money.errFunds", laid_bazaar_money_errFunds)], narrowed := true }
def AccountsTurnUptoSaid : Prop := accountsTurnUptoRow.holds Tryd.pinned (OpenSpec.upto accountsTurnSpec)

/-- 'bazaarlaw13.AccountsDo', WHERE WHAT IT READS IS OF BULK AT MOST 1048576: true; the input reads as it did. -/
def accountsDoUptoRow : OpenClaim := { program := "ytgnjodocggihoaadoor", sum := "b5a77687e4df11589e3ca915adb364b9943c2deffdbfd68bd39d7e6f56c17329", func := "bazaar/bazaarlaw13.AccountsDo", spec := "accountsDo", inPlace := ["internal/reflectlite.TypeOf"], unfollowed := true, recurses := true, named := ["bazaar/money.errFunds", "bazaar/money.errAmount", "bazaar/money.errOverflow"], apart := false, laid := [("bazaar/money.errAmount", laid_bazaar_money_errAmount), ("bazaar/money.errOverflow", laid_bazaar_money_errOverflow), ("bazaar/money.errFunds", laid_bazaar_money_errFunds)], narrowed := true }
def AccountsDoUptoSaid : Prop := accountsDoUptoRow.holds Tryd.pinned (OpenSpec.upto accountsDoSpec)

/-- 'bazaarlaw13.AccountsKeep', WHERE WHAT IT READS IS OF BULK AT MOST 1048576: true; the input reads as it did. -/
def accountsKeepUptoRow : OpenClaim := { program := "ytgnjodocggihoaadoor", sum := "b5a77687e4df11589e3ca915adb364b9943c2deffdbfd68bd39d7e6f56c17329", func := "bazaar/bazaarlaw13.AccountsKeep", spec := "accountsKeep", inPlace := ["internal/reflectlite.TypeOf"], unfollowed := true, recurses := true, named := ["bazaar/money.errFunds", "bazaar/money.errAmount", "bazaar/money.errOverflow"], apart := false, laid := [("bazaar/money.errAmount", laid_bazaar_money_errAmount), ("bazaar/money.errOverflow", laid_bazaar_money_errOverflow), ("bazaar/money.errFunds", laid_bazaar_money_errFunds)], narrowed := true }
def AccountsKeepUptoSaid : Prop := accountsKeepUptoRow.holds Tryd.pinned (OpenSpec.upto accountsKeepSpec)

/-- 'bazaarlaw13.AccountsBytes', WHERE WHAT IT READS IS OF BULK AT MOST 1048576: true; the input reads as it did. -/
def accountsBytesUptoRow : OpenClaim := { program := "ytgnjodocggihoaadoor", sum := "b5a77687e4df11589e3ca915adb364b9943c2deffdbfd68bd39d7e6f56c17329", func := "bazaar/bazaarlaw13.AccountsBytes", spec := "accountsBytes", inPlace := ["internal/reflectlite.TypeOf"], unfollowed := true, recurses := true, named := ["bazaar/money.errFunds", "bazaar/money.errAmount", "bazaar/money.errOverflow"], apart := false, laid := [("bazaar/money.errAmount", laid_bazaar_money_errAmount), ("bazaar/money.errOverflow", laid_bazaar_money_errOverflow), ("bazaar/money.errFunds", laid_bazaar_money_errFunds)], narrowed := true }
def AccountsBytesUptoSaid : Prop := accountsBytesUptoRow.holds Tryd.pinned (OpenSpec.upto accountsBytesSpec)

/-- 'bazaarlaw13.AccountsBack', WHERE WHAT IT READS IS OF BULK AT MOST 1048576: true; the input reads as it did. -/
def accountsBackUptoRow : OpenClaim := { program := "ytgnjodocggihoaadoor", sum := "b5a77687e4df11589e3ca915adb364b9943c2deffdbfd68bd39d7e6f56c17329", func := "bazaar/bazaarlaw13.AccountsBack", spec := "accountsBack", inPlace := ["internal/reflectlite.TypeOf"], unfollowed := true, recurses := true, named := ["bazaar/money.errFunds", "bazaar/money.errAmount", "bazaar/money.errOverflow"], apart := false, laid := [("bazaar/money.errAmount", laid_bazaar_money_errAmount), ("bazaar/money.errOverflow", laid_bazaar_money_errOverflow), ("bazaar/money.errFunds", laid_bazaar_money_errFunds)], narrowed := true }
def AccountsBackUptoSaid : Prop := accountsBackUptoRow.holds Tryd.pinned (OpenSpec.upto accountsBackSpec)

/-- 'bazaarlaw12.GoodsBack', WHERE WHAT IT READS IS OF BULK AT MOST 1048576: true; the input reads as it did. -/
def goodsBackUptoRow : OpenClaim := { program := "ytgnjodocggihoaadoor", sum := "b5a77687e4df11589e3ca915adb364b9943c2deffdbfd68bd39d7e6f56c17329", func := "bazaar/bazaarlaw12.GoodsBack", spec := "goodsBack", inPlace := ["internal/reflectlite.TypeOf"], unfollowed := true, recurses := true, named := ["bazaar/money.errOverflow", "bazaar/money.errAmount", "bazaar/money.errFunds"], apart := false, laid := [("bazaar/money.errAmount", laid_bazaar_money_errAmount), ("bazaar/money.errOverflow", laid_bazaar_money_errOverflow), ("bazaar/money.errFunds", laid_bazaar_money_errFunds)], narrowed := true }
def GoodsBackUptoSaid : Prop := goodsBackUptoRow.holds Tryd.pinned (OpenSpec.upto goodsBackSpec)

/-- 'bazaarlaw12.GoodsOwn', WHERE WHAT IT READS IS OF BULK AT MOST 1048576: true; the input reads as it did. -/
def goodsOwnUptoRow : OpenClaim := { program := "ytgnjodocggihoaadoor", sum := "b5a77687e4df11589e3ca915adb364b9943c2deffdbfd68bd39d7e6f56c17329", func := "bazaar/bazaarlaw12.GoodsOwn", spec := "goodsOwn", inPlace := ["internal/reflectlite.TypeOf"], unfollowed := true, recurses := true, named := ["bazaar/money.errOverflow", "bazaar/money.errAmount", "bazaar/money.errFunds"], apart := false, laid := [("bazaar/money.errAmount", laid_bazaar_money_errAmount), ("bazaar/money.errOverflow", laid_bazaar_money_errOverflow), ("bazaar/money.errFunds", laid_bazaar_money_errFunds)], narrowed := true }
def GoodsOwnUptoSaid : Prop := goodsOwnUptoRow.holds Tryd.pinned (OpenSpec.upto goodsOwnSpec)

/-- 'bazaarlaw12.GoodsSlots', WHERE WHAT IT READS IS OF BULK AT MOST 1048576: true; the input reads as it did. -/
def goodsSlotsUptoRow : OpenClaim := { program := "ytgnjodocggihoaadoor", sum := "b5a77687e4df11589e3ca915adb364b9943c2deffdbfd68bd39d7e6f56c17329", func := "bazaar/bazaarlaw12.GoodsSlots", spec := "goodsSlots", inPlace := ["internal/reflectlite.TypeOf"], unfollowed := true, recurses := true, named := ["bazaar/money.errOverflow", "bazaar/money.errAmount", "bazaar/money.errFunds"], apart := false, laid := [("bazaar/money.errAmount", laid_bazaar_money_errAmount), ("bazaar/money.errOverflow", laid_bazaar_money_errOverflow), ("bazaar/money.errFunds", laid_bazaar_money_errFunds)], narrowed := true }
def GoodsSlotsUptoSaid : Prop := goodsSlotsUptoRow.holds Tryd.pinned (OpenSpec.upto goodsSlotsSpec)

/-- 'bazaarlaw12.GoodsTwice', WHERE WHAT IT READS IS OF BULK AT MOST 1048576: true; the input reads as it did. -/
def goodsTwiceUptoRow : OpenClaim := { program := "ytgnjodocggihoaadoor", sum := "b5a77687e4df11589e3ca915adb364b9943c2deffdbfd68bd39d7e6f56c17329", func := "bazaar/bazaarlaw12.GoodsTwice", spec := "goodsTwice", inPlace := ["internal/reflectlite.TypeOf"], unfollowed := true, recurses := true, named := ["bazaar/money.errOverflow", "bazaar/money.errAmount", "bazaar/money.errFunds"], apart := false, laid := [("bazaar/money.errAmount", laid_bazaar_money_errAmount), ("bazaar/money.errOverflow", laid_bazaar_money_errOverflow), ("bazaar/money.errFunds", laid_bazaar_money_errFunds)], narrowed := true }
def GoodsTwiceUptoSaid : Prop := goodsTwiceUptoRow.holds Tryd.pinned (OpenSpec.upto goodsTwiceSpec)

/-- 'bazaarlaw12.GoodsDo', WHERE WHAT IT READS IS OF BULK AT MOST 1048576: true; the input reads as it did. -/
def goodsDoUptoRow : OpenClaim := { program := "ytgnjodocggihoaadoor", sum := "b5a77687e4df11589e3ca915adb364b9943c2deffdbfd68bd39d7e6f56c17329", func := "bazaar/bazaarlaw12.GoodsDo", spec := "goodsDo", inPlace := ["internal/reflectlite.TypeOf"], unfollowed := true, recurses := true, named := ["bazaar/money.errOverflow", "bazaar/money.errAmount", "bazaar/money.errFunds"], apart := false, laid := [("bazaar/money.errAmount", laid_bazaar_money_errAmount), ("bazaar/money.errOverflow", laid_bazaar_money_errOverflow), ("bazaar/money.errFunds", laid_bazaar_money_errFunds)], narrowed := true }
def GoodsDoUptoSaid : Prop := goodsDoUptoRow.holds Tryd.pinned (OpenSpec.upto goodsDoSpec)

/-- 'bazaarlaw12.GoodsKeep', WHERE WHAT IT READS IS OF BULK AT MOST 1048576: true; the input reads as it did. -/
def goodsKeepUptoRow : OpenClaim := { program := "ytgnjodocggihoaadoor", sum := "b5a77687e4df11589e3ca915adb364b9943c2deffdbfd68bd39d7e6f56c17329", func := "bazaar/bazaarlaw12.GoodsKeep", spec := "goodsKeep", inPlace := ["internal/reflectlite.TypeOf"], unfollowed := true, recurses := true, named := ["bazaar/money.errOverflow", "bazaar/money.errAmount", "bazaar/money.errFunds"], apart := false, laid := [("bazaar/money.errAmount", laid_bazaar_money_errAmount), ("bazaar/money.errOverflow", laid_bazaar_money_errOverflow), ("bazaar/money.errFunds", laid_bazaar_money_errFunds)], narrowed := true }
def GoodsKeepUptoSaid : Prop := goodsKeepUptoRow.holds Tryd.pinned (OpenSpec.upto goodsKeepSpec)

end Rows
end Go.Proofs.YtgnjodocggihoaaDoor
