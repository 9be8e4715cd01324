/-
  NARROWER THAN 'FOR EVERY INPUT', by the rows' own cells (each row's printed sentence says how): MoneyKeeps: laid · MoneySums: laid · MoneyTimes: laid · MoneyTurns: laid · MoneyBounds: laid · MoneyBytes: laid · MoneyBack: laid.
  DERIVED. THE GIVEN ROWS OF THIS SEAT. 7 by the template 'for every input the law returns true; each argument reads behind the call as it read before'; 0 by the template 'total and deterministic' (their statements: YtfncbcbhhddnpaaDoorTotals.lean).
  GIVEN WITH THE SEED: the statements are not yours to turn. If you find one false, say at which input.
  Laid BY PROGRAM, IN A SANDBOX (cutbox-rows.mjs): the forced cells as the released guide's own fill.sh prints them over the translation d1f0f7b14728bc50… (all of the seat's roots in one cut). By AI agents, Wed Nov 11 2026. No macro, syntax, notation, axiom, sorry.
-/
import Derived.Test.YtfncbcbhhddnpaaDoorChecked
import GoSem.Claim
import GoSem.ClaimJoined
import GoSem.ClaimMapViews
import Derived.JoinedTies
import Derived.KernelRfl
namespace Go.Proofs.YtfncbcbhhddnpaaDoor
/- THE CELL 'sum', in the pinned program and in every row, IS THE sha256 OF THE DUMP (.gsa) THAT YtfncbcbhhddnpaaDoorProg.lean LOADS. Nothing in Lean hashes anything: it is a label: what it is worth is what the hold of that sum in a sandbox is worth. -/
noncomputable def Tryd.pinned : Pinned := { name := "ytfncbcbhhddnpaadoor", sum := "d1f0f7b14728bc5091cc1067b35488c5fc4d70cc641b183dba30c495dc9fc7c3", checked := Tryd.checked }
namespace Rows
def none {H : Type} : Left H := { results := [], args := [] }

/- WHAT THE LISTED PACKAGE-LEVEL VARIABLES READ AS WHEN THE CALL BEGINS. Each datum BY PROGRAM (the guide's laid-datum.mjs) off the statement by which the dump's own 'gosem.cut.vars' lays the variable. In a bare row this is a premise. The card (YtfncbcbhhddnpaaDoorCards.lean) ties it to the program's text. -/
def laid_bazaar_money_errAmount {H : Type} : DataW H := .iface "*errors.errorString" (.ptr (.agg [.lit (.string [110, 111, 32, 97, 109, 111, 117, 110, 116])]))
def laid_bazaar_money_errOverflow {H : Type} : DataW H := .iface "*errors.errorString" (.ptr (.agg [.lit (.string [116, 111, 111, 32, 109, 117, 99, 104])]))
def laid_bazaar_money_errFunds {H : Type} : DataW H := .iface "*errors.errorString" (.ptr (.agg [.lit (.string [116, 111, 111, 32, 108, 105, 116, 116, 108, 101])]))

/-- 'bazaarlaw11.MoneyKeeps': WHATEVER THE INPUT: true; the input reads as it did. -/
def moneyKeepsSpec : ChangeSpec := { name := "moneyKeeps", fn := fun _ => fun
  | [d1, d2, d3] => { results := [.lit (.bool true)], args := [d1, d2, d3] }
  | _ => none }
def moneyKeepsRow : OpenClaim := { program := "ytfncbcbhhddnpaadoor", sum := "d1f0f7b14728bc5091cc1067b35488c5fc4d70cc641b183dba30c495dc9fc7c3", func := "bazaar/bazaarlaw11.MoneyKeeps", spec := "moneyKeeps", inPlace := ["internal/reflectlite.TypeOf"], unfollowed := true, recurses := true, named := ["bazaar/money.errOverflow", "bazaar/money.errAmount", "bazaar/money.errFunds"], apart := false, laid := [("bazaar/money.errAmount", laid_bazaar_money_errAmount), ("bazaar/money.errOverflow", laid_bazaar_money_errOverflow), ("bazaar/money.errFunds", laid_bazaar_money_errFunds)] }
def MoneyKeepsSaid : Prop := moneyKeepsRow.holds Tryd.pinned (OpenSpec.ofChange moneyKeepsSpec)

/-- ITS FALSE NEIGHBOUR: 'it returns false'. Refute it at one input. -/
def moneyKeepsWrong : ChangeSpec := { name := "moneyKeeps", fn := fun _ => fun
  | [d1, d2, d3] => { results := [.lit (.bool false)], args := [d1, d2, d3] }
  | _ => none }
def MoneyKeepsWrongFalsely : Prop := moneyKeepsRow.holds Tryd.pinned (OpenSpec.ofChange moneyKeepsWrong)

/-- 'bazaarlaw11.MoneySums': WHATEVER THE INPUT: true; the input reads as it did. -/
def moneySumsSpec : ChangeSpec := { name := "moneySums", fn := fun _ => fun
  | [d1, d2, d3] => { results := [.lit (.bool true)], args := [d1, d2, d3] }
  | _ => none }
def moneySumsRow : OpenClaim := { program := "ytfncbcbhhddnpaadoor", sum := "d1f0f7b14728bc5091cc1067b35488c5fc4d70cc641b183dba30c495dc9fc7c3", func := "bazaar/bazaarlaw11.MoneySums", spec := "moneySums", inPlace := ["internal/reflectlite.TypeOf"], unfollowed := true, recurses := true, named := ["bazaar/money.errOverflow", "bazaar/money.errAmount", "bazaar/money.errFunds"], apart := false, laid := [("bazaar/money.errAmount", laid_bazaar_money_errAmount), ("bazaar/money.errOverflow", laid_bazaar_money_errOverflow), ("bazaar/money.errFunds", laid_bazaar_money_errFunds)] }
def MoneySumsSaid : Prop := moneySumsRow.holds Tryd.pinned (OpenSpec.ofChange moneySumsSpec)

/-- ITS FALSE NEIGHBOUR: 'it returns false'. Refute it at one input. -/
def moneySumsWrong : ChangeSpec := { name := "moneySums", fn := fun _ => fun
  | [d1, d2, d3] => { results := [.lit (.bool false)], args := [d1, d2, d3] }
  | _ => none }
def MoneySumsWrongFalsely : Prop := moneySumsRow.holds Tryd.pinned (OpenSpec.ofChange moneySumsWrong)

/-- 'bazaarlaw11.MoneyTimes': WHATEVER THE INPUT: true; the input reads as it did. -/
def moneyTimesSpec : ChangeSpec := { name := "moneyTimes", fn := fun _ => fun
  | [d1, d2] => { results := [.lit (.bool true)], args := [d1, d2] }
  | _ => none }
def moneyTimesRow : OpenClaim := { program := "ytfncbcbhhddnpaadoor", sum := "d1f0f7b14728bc5091cc1067b35488c5fc4d70cc641b183dba30c495dc9fc7c3", func := "bazaar/bazaarlaw11.MoneyTimes", spec := "moneyTimes", inPlace := ["internal/reflectlite.TypeOf"], unfollowed := true, recurses := true, named := ["bazaar/money.errOverflow", "bazaar/money.errAmount", "bazaar/money.errFunds"], apart := false, laid := [("bazaar/money.errAmount", laid_bazaar_money_errAmount), ("bazaar/money.errOverflow", laid_bazaar_money_errOverflow), ("bazaar/money.errFunds", laid_bazaar_money_errFunds)] }
def MoneyTimesSaid : Prop := moneyTimesRow.holds Tryd.pinned (OpenSpec.ofChange moneyTimesSpec)

/-- ITS FALSE NEIGHBOUR: 'it returns false'. Refute it at one input. -/
def moneyTimesWrong : ChangeSpec := { name := "moneyTimes", fn := fun _ => fun
  | [d1, d2] => { results := [.lit (.bool false)], args := [d1, d2] }
  | _ => none }
def MoneyTimesWrongFalsely : Prop := moneyTimesRow.holds Tryd.pinned (OpenSpec.ofChange moneyTimesWrong)

/-- 'bazaarlaw11.MoneyTurns': WHATEVER THE INPUT: true; the input reads as it did. -/
def moneyTurnsSpec : ChangeSpec := { name := "moneyTurns", fn := fun _ => fun
  | [d1, d2] => { results := [.lit (.bool true)], args := [d1, d2] }
  | _ => none }
def moneyTurnsRow : OpenClaim := { program := "ytfncbcbhhddnpaadoor", sum := "d1f0f7b14728bc5091cc1067b35488c5fc4d70cc641b183dba30c495dc9fc7c3", func := "bazaar/bazaarlaw11.MoneyTurns", spec := "moneyTurns", inPlace := ["internal/reflectlite.TypeOf"], unfollowed := true, recurses := true, named := ["bazaar/money.errOverflow", "bazaar/money.errAmount", "bazaar/money.errFunds"], apart := false, laid := [("bazaar/money.errAmount", laid_bazaar_money_errAmount), ("bazaar/money.errOverflow", laid_bazaar_money_errOverflow), ("bazaar/money.errFunds", laid_bazaar_money_errFunds)] }
def MoneyTurnsSaid : Prop := moneyTurnsRow.holds Tryd.pinned (OpenSpec.ofChange moneyTurnsSpec)

/-- ITS FALSE NEIGHBOUR: 'it returns false'. Refute it at one input. -/
def moneyTurnsWrong : ChangeSpec := { name := "moneyTurns", fn := fun _ => fun
  | [d1, d2] => { results := [.lit (.bool false)], args := [d1, d2] }
  | _ => none }
def MoneyTurnsWrongFalsely : Prop := moneyTurnsRow.holds Tryd.pinned (OpenSpec.ofChange moneyTurnsWrong)

/-- 'bazaarlaw11.MoneyBounds': WHATEVER THE INPUT: true; the input reads as it did. -/
def moneyBoundsSpec : ChangeSpec := { name := "moneyBounds", fn := fun _ => fun
  | [d1, d2, d3] => { results := [.lit (.bool true)], args := [d1, d2, d3] }
  | _ => none }
def moneyBoundsRow : OpenClaim := { program := "ytfncbcbhhddnpaadoor", sum := "d1f0f7b14728bc5091cc1067b35488c5fc4d70cc641b183dba30c495dc9fc7c3", func := "bazaar/bazaarlaw11.MoneyBounds", spec := "moneyBounds", inPlace := ["internal/reflectlite.TypeOf"], unfollowed := true, recurses := true, named := ["bazaar/money.errOverflow", "bazaar/money.errAmount", "bazaar/money.errFunds"], apart := false, laid := [("bazaar/money.errAmount", laid_bazaar_money_errAmount), ("bazaar/money.errOverflow", laid_bazaar_money_errOverflow), ("bazaar/money.errFunds", laid_bazaar_money_errFunds)] }
def MoneyBoundsSaid : Prop := moneyBoundsRow.holds Tryd.pinned (OpenSpec.ofChange moneyBoundsSpec)

/-- ITS FALSE NEIGHBOUR: 'it returns false'. Refute it at one input. -/
def moneyBoundsWrong : ChangeSpec := { name := "moneyBounds", fn := fun _ => fun
  | [d1, d2, d3] => { results := [.lit (.bool false)], args := [d1, d2, d3] }
  | _ => none }
def MoneyBoundsWrongFalsely : Prop := moneyBoundsRow.holds Tryd.pinned (OpenSpec.ofChange moneyBoundsWrong)

/-- 'bazaarlaw11.MoneyBytes': WHATEVER THE INPUT: true; the input reads as it did. -/
def moneyBytesSpec : ChangeSpec := { name := "moneyBytes", fn := fun _ => fun
  | [d1, d2] => { results := [.lit (.bool true)], args := [d1, d2] }
  | _ => none }
def moneyBytesRow : OpenClaim := { program := "ytfncbcbhhddnpaadoor", sum := "d1f0f7b14728bc5091cc1067b35488c5fc4d70cc641b183dba30c495dc9fc7c3", func := "bazaar/bazaarlaw11.MoneyBytes", spec := "moneyBytes", inPlace := ["internal/reflectlite.TypeOf"], unfollowed := true, recurses := true, named := ["bazaar/money.errOverflow", "bazaar/money.errAmount", "bazaar/money.errFunds"], apart := false, laid := [("bazaar/money.errAmount", laid_bazaar_money_errAmount), ("bazaar/money.errOverflow", laid_bazaar_money_errOverflow), ("bazaar/money.errFunds", laid_bazaar_money_errFunds)] }
def MoneyBytesSaid : Prop := moneyBytesRow.holds Tryd.pinned (OpenSpec.ofChange moneyBytesSpec)

/-- ITS FALSE NEIGHBOUR: 'it returns false'. Refute it at one input. -/
def moneyBytesWrong : ChangeSpec := { name := "moneyBytes", fn := fun _ => fun
  | [d1, d2] => { results := [.lit (.bool false)], args := [d1, d2] }
  | _ => none }
def MoneyBytesWrongFalsely : Prop := moneyBytesRow.holds Tryd.pinned (OpenSpec.ofChange moneyBytesWrong)

/-- 'bazaarlaw11.MoneyBack': WHATEVER THE INPUT: true; the input reads as it did. -/
def moneyBackSpec : ChangeSpec := { name := "moneyBack", fn := fun _ => fun
  | [d1, d2] => { results := [.lit (.bool true)], args := [d1, d2] }
  | _ => none }
def moneyBackRow : OpenClaim := { program := "ytfncbcbhhddnpaadoor", sum := "d1f0f7b14728bc5091cc1067b35488c5fc4d70cc641b183dba30c495dc9fc7c3", func := "bazaar/bazaarlaw11.MoneyBack", spec := "moneyBack", inPlace := ["internal/reflectlite.TypeOf"], unfollowed := true, recurses := true, named := ["bazaar/money.errOverflow", "bazaar/money.errAmount", "bazaar/money.errFunds"], apart := false, laid := [("bazaar/money.errAmount", laid_bazaar_money_errAmount), ("bazaar/money.errOverflow", laid_bazaar_money_errOverflow), ("bazaar/money.errFunds", laid_bazaar_money_errFunds)] }
def MoneyBackSaid : Prop := moneyBackRow.holds Tryd.pinned (OpenSpec.ofChange moneyBackSpec)

/-- ITS FALSE NEIGHBOUR: 'it returns false'. Refute it at one input. -/
def moneyBackWrong : ChangeSpec := { name := "moneyBack", fn := fun _ => fun
  | [d1, d2] => { results := [.lit (.bool false)], args := [d1, d2] }
  | _ => none }
def MoneyBackWrongFalsely : Prop := moneyBackRow.holds Tryd.pinned (OpenSpec.ofChange moneyBackWrong)

/- THE SECOND FORM. 'bulk': how many values and letters a reading holds, each counted each time it is reached (what is shared counts as often as it is met; a slice's spare places count too). A statement '..UptoSaid' is the law's where the arguments, and the package variables that the reading takes, are together of bulk at most 1048576: NARROWER than '..Said'. Prove '..Said' where nothing that the law and all that it calls make is longer than what came in: it says more and counts as full. Else prove '..UptoSaid'. A law counts once. -/
mutual
def uptoBulk {H : Type} : DataW H → Nat
  | .lit (.string bytes) => bytes.length + 1
  | .lit _ => 1
  | .nil => 1
  | .ptr d => uptoBulk d + 1
  | .slice elems spare => uptoBulkAll elems + uptoBulkAll spare + 1
  | .agg parts => uptoBulkAll parts + 1
  | .iface _ d => uptoBulk d + 1
  | .map entries => uptoBulkEntries entries + 1
  | .held _ => 1
def uptoBulkAll {H : Type} : List (DataW H) → Nat
  | [] => 0
  | d :: r => uptoBulk d + uptoBulkAll r
def uptoBulkEntries {H : Type} : List (Lit × DataW H) → Nat
  | [] => 0
  | x :: r => uptoBulkEntry x + uptoBulkEntries r
def uptoBulkEntry {H : Type} : Lit × DataW H → Nat
  | (.string bytes, d) => bytes.length + uptoBulk d + 1
  | (_, d) => uptoBulk d + 1
 end
def uptoSmall : (H : Type) → List (DataW H) → Bool := fun _ ds => decide (uptoBulkAll ds ≤ 1048576)
def OpenSpec.upto (s : _root_.Go.ChangeSpec) : _root_.Go.OpenSpec := { _root_.Go.OpenSpec.ofChange s with cond := some uptoSmall }

/-- 'bazaarlaw11.MoneyKeeps', WHERE WHAT IT READS IS OF BULK AT MOST 1048576: true; the input reads as it did. -/
def moneyKeepsUptoRow : OpenClaim := { program := "ytfncbcbhhddnpaadoor", sum := "d1f0f7b14728bc5091cc1067b35488c5fc4d70cc641b183dba30c495dc9fc7c3", func := "bazaar/bazaarlaw11.MoneyKeeps", spec := "moneyKeeps", inPlace := ["internal/reflectlite.TypeOf"], unfollowed := true, recurses := true, named := ["bazaar/money.errOverflow", "bazaar/money.errAmount", "bazaar/money.errFunds"], apart := false, laid := [("bazaar/money.errAmount", laid_bazaar_money_errAmount), ("bazaar/money.errOverflow", laid_bazaar_money_errOverflow), ("bazaar/money.errFunds", laid_bazaar_money_errFunds)], narrowed := true }
def MoneyKeepsUptoSaid : Prop := moneyKeepsUptoRow.holds Tryd.pinned (OpenSpec.upto moneyKeepsSpec)

/-- 'bazaarlaw11.MoneySums', WHERE WHAT IT READS IS OF BULK AT MOST 1048576: true; the input reads as it did. -/
def moneySumsUptoRow : OpenClaim := { program := "ytfncbcbhhddnpaadoor", sum := "d1f0f7b14728bc5091cc1067b35488c5fc4d70cc641b183dba30c495dc9fc7c3", func := "bazaar/bazaarlaw11.MoneySums", spec := "moneySums", inPlace := ["internal/reflectlite.TypeOf"], unfollowed := true, recurses := true, named := ["bazaar/money.errOverflow", "bazaar/money.errAmount", "bazaar/money.errFunds"], apart := false, laid := [("bazaar/money.errAmount", laid_bazaar_money_errAmount), ("bazaar/money.errOverflow", laid_bazaar_money_errOverflow), ("bazaar/money.errFunds", laid_bazaar_money_errFunds)], narrowed := true }
def MoneySumsUptoSaid : Prop := moneySumsUptoRow.holds Tryd.pinned (OpenSpec.upto moneySumsSpec)

/-- 'bazaarlaw11.MoneyTimes', WHERE WHAT IT READS IS OF BULK AT MOST 1048576: true; the input reads as it did. -/
def moneyTimesUptoRow : OpenClaim := { program := "ytfncbcbhhddnpaadoor", sum := "d1f0f7b14728bc5091cc1067b35488c5fc4d70cc641b183dba30c495dc9fc7c3", func := "bazaar/bazaarlaw11.MoneyTimes", spec := "moneyTimes", inPlace := ["internal/reflectlite.TypeOf"], unfollowed := true, recurses := true, named := ["bazaar/money.errOverflow", "bazaar/money.errAmount", "bazaar/money.errFunds"], apart := false, laid := [("bazaar/money.errAmount", laid_bazaar_money_errAmount), ("bazaar/money.errOverflow", laid_bazaar_money_errOverflow), ("bazaar/money.errFunds", laid_bazaar_money_errFunds)], narrowed := true }
def MoneyTimesUptoSaid : Prop := moneyTimesUptoRow.holds Tryd.pinned (OpenSpec.upto moneyTimesSpec)

/-- 'bazaarlaw11.MoneyTurns', WHERE WHAT IT READS IS OF BULK AT MOST 1048576: true; the input reads as it did. -/
def moneyTurnsUptoRow : OpenClaim := { program := "ytfncbcbhhddnpaadoor", sum := "d1f0f7b14728bc5091cc1067b35488c5fc4d70cc641b183dba30c495dc9fc7c3", func := "bazaar/bazaarlaw11.MoneyTurns", spec := "moneyTurns", inPlace := ["internal/reflectlite.TypeOf"], unfollowed := true, recurses := true, named := ["bazaar/money.errOverflow", "bazaar/money.errAmount", "bazaar/money.errFunds"], apart := false, laid := [("bazaar/money.errAmount", laid_bazaar_money_errAmount), ("bazaar/money.errOverflow", laid_bazaar_money_errOverflow), ("bazaar/money.errFunds", laid_bazaar_money_errFunds)], narrowed := true }
def MoneyTurnsUptoSaid : Prop := moneyTurnsUptoRow.holds Tryd.pinned (OpenSpec.upto moneyTurnsSpec)

/-- 'bazaarlaw11.MoneyBounds', WHERE WHAT IT READS IS OF BULK AT MOST 1048576: true; the input reads as it did. -/
def moneyBoundsUptoRow : OpenClaim := { program := "ytfncbcbhhddnpaadoor", sum := "d1f0f7b14728bc5091cc1067b35488c5fc4d70cc641b183dba30c495dc9fc7c3", func := "bazaar/bazaarlaw11.MoneyBounds", spec := "moneyBounds", inPlace := ["internal/reflectlite.TypeOf"], unfollowed := true, recurses := true, named := ["bazaar/money.errOverflow", "bazaar/money.errAmount", "bazaar/money.errFunds"], apart := false, laid := [("bazaar/money.errAmount", laid_bazaar_money_errAmount), ("bazaar/money.errOverflow", laid_bazaar_money_errOverflow), ("bazaar/money.errFunds", laid_bazaar_money_errFunds)], narrowed := true }
def MoneyBoundsUptoSaid : Prop := moneyBoundsUptoRow.holds Tryd.pinned (OpenSpec.upto moneyBoundsSpec)

/-- 'bazaarlaw11.MoneyBytes', WHERE WHAT IT READS IS OF BULK AT MOST 1048576: true; the input reads as it did. -/
def moneyBytesUptoRow : OpenClaim := { program := "ytfncbcbhhddnpaadoor", sum := "d1f0f7b14728bc5091cc1067b35488c5fc4d70cc641b183dba30c495dc9fc7c3", func := "bazaar/bazaarlaw11.MoneyBytes", spec := "moneyBytes", inPlace := ["internal/reflectlite.TypeOf"], unfollowed := true, recurses := true, named := ["bazaar/money.errOverflow", "bazaar/money.errAmount", "bazaar/money.errFunds"], apart := false, laid := [("bazaar/money.errAmount", laid_bazaar_money_errAmount), ("bazaar/money.errOverflow", laid_bazaar_money_errOverflow), ("bazaar/money.errFunds", laid_bazaar_money_errFunds)], narrowed := true }
def MoneyBytesUptoSaid : Prop := moneyBytesUptoRow.holds Tryd.pinned (OpenSpec.upto moneyBytesSpec)

/-- 'bazaarlaw11.MoneyBack', WHERE WHAT IT READS IS OF BULK AT MOST 1048576: true; the input reads as it did. -/
def moneyBackUptoRow : OpenClaim := { program := "ytfncbcbhhddnpaadoor", sum := "d1f0f7b14728bc5091cc1067b35488c5fc4d70cc641b183dba30c495dc9fc7c3", func := "bazaar/bazaarlaw11.MoneyBack", spec := "moneyBack", inPlace := ["internal/reflectlite.TypeOf"], unfollowed := true, recurses := true, named := ["bazaar/money.errOverflow", "bazaar/money.errAmount", "bazaar/money.errFunds"], apart := false, laid := [("bazaar/money.errAmount", laid_bazaar_money_errAmount), ("bazaar/money.errOverflow", laid_bazaar_money_errOverflow), ("bazaar/money.errFunds", laid_bazaar_money_errFunds)], narrowed := true }
def MoneyBackUptoSaid : Prop := moneyBackUptoRow.holds Tryd.pinned (OpenSpec.upto moneyBackSpec)

end Rows
end Go.Proofs.YtfncbcbhhddnpaaDoor
