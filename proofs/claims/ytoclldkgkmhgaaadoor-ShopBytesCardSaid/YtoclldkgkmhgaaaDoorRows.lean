/-
  NARROWER THAN 'FOR EVERY INPUT', by the rows' own cells (each row's printed sentence says how): MailBytes: laid · MailSizes: laid · MailSends: laid · MailOwn: laid · MailMoves: laid · MailBack: laid · ShopKeeps: laid · ShopDoes: laid · ShopOwn: laid · ShopBytes: laid · ShopSizes: laid · ShopBack: laid.
  DERIVED. THE GIVEN ROWS OF THIS SEAT. 12 by the template 'for every input the law returns true; each argument reads behind the call as it read before'; 0 by the template 'total and deterministic' (their statements: YtoclldkgkmhgaaaDoorTotals.lean).
  GIVEN WITH THE SEED: the statements are not yours to turn. If you find one false, say at which input.
  Laid BY PROGRAM, IN A SANDBOX (cutbox-rows.mjs): the forced cells as the released guide's own fill.sh prints them over the translation a1be2bfecb3f7515… (all of the seat's roots in one cut). By AI agents, Wed Nov 11 2026. No macro, syntax, notation, axiom, sorry.
-/
import Derived.Test.YtoclldkgkmhgaaaDoorChecked
import GoSem.Claim
import GoSem.ClaimJoined
import GoSem.ClaimMapViews
import Derived.JoinedTies
import Derived.KernelRfl
namespace Go.Proofs.YtoclldkgkmhgaaaDoor
/- THE CELL 'sum', in the pinned program and in every row, IS THE sha256 OF THE DUMP (.gsa) THAT YtoclldkgkmhgaaaDoorProg.lean LOADS. Nothing in Lean hashes anything: it is a label: what it is worth is what the hold of that sum in a sandbox is worth. -/
noncomputable def Tryd.pinned : Pinned := { name := "ytoclldkgkmhgaaadoor", sum := "a1be2bfecb3f75150f5e43dc8cee41d1171c0689e86fd7fe969285e3b4a74e3a", checked := Tryd.checked }
namespace Rows
def none {H : Type} : Left H := { results := [], args := [] }

/- WHAT THE LISTED PACKAGE-LEVEL VARIABLES READ AS WHEN THE CALL BEGINS. Each datum BY PROGRAM (the guide's laid-datum.mjs) off the statement by which the dump's own 'gosem.cut.vars' lays the variable. In a bare row this is a premise. The card (YtoclldkgkmhgaaaDoorCards.lean) ties it to the program's text. -/
def laid_bazaar_money_errAmount {H : Type} : DataW H := .iface "*errors.errorString" (.ptr (.agg [.lit (.string [110, 111, 32, 97, 109, 111, 117, 110, 116])]))
def laid_bazaar_money_errOverflow {H : Type} : DataW H := .iface "*errors.errorString" (.ptr (.agg [.lit (.string [116, 111, 111, 32, 109, 117, 99, 104])]))
def laid_bazaar_money_errFunds {H : Type} : DataW H := .iface "*errors.errorString" (.ptr (.agg [.lit (.string [116, 111, 111, 32, 108, 105, 116, 116, 108, 101])]))

/-- 'bazaarlaw14.MailBytes': WHATEVER THE INPUT: true; the input reads as it did. -/
def mailBytesSpec : ChangeSpec := { name := "mailBytes", fn := fun _ => fun
  | [d1, d2] => { results := [.lit (.bool true)], args := [d1, d2] }
  | _ => none }
def mailBytesRow : OpenClaim := { program := "ytoclldkgkmhgaaadoor", sum := "a1be2bfecb3f75150f5e43dc8cee41d1171c0689e86fd7fe969285e3b4a74e3a", func := "bazaar/bazaarlaw14.MailBytes", spec := "mailBytes", inPlace := ["internal/reflectlite.TypeOf"], unfollowed := true, recurses := true, named := ["bazaar/money.errFunds", "bazaar/money.errAmount", "bazaar/money.errOverflow"], apart := false, laid := [("bazaar/money.errAmount", laid_bazaar_money_errAmount), ("bazaar/money.errOverflow", laid_bazaar_money_errOverflow), ("bazaar/money.errFunds", laid_bazaar_money_errFunds)] }
def MailBytesSaid : Prop := mailBytesRow.holds Tryd.pinned (OpenSpec.ofChange mailBytesSpec)

/-- ITS FALSE NEIGHBOUR: 'it returns false'. Refute it at one input. -/
def mailBytesWrong : ChangeSpec := { name := "mailBytes", fn := fun _ => fun
  | [d1, d2] => { results := [.lit (.bool false)], args := [d1, d2] }
  | _ => none }
def MailBytesWrongFalsely : Prop := mailBytesRow.holds Tryd.pinned (OpenSpec.ofChange mailBytesWrong)

/-- 'bazaarlaw14.MailSizes': WHATEVER THE INPUT: true; the input reads as it did. -/
def mailSizesSpec : ChangeSpec := { name := "mailSizes", fn := fun _ => fun
  | [d] => { results := [.lit (.bool true)], args := [d] }
  | _ => none }
def mailSizesRow : OpenClaim := { program := "ytoclldkgkmhgaaadoor", sum := "a1be2bfecb3f75150f5e43dc8cee41d1171c0689e86fd7fe969285e3b4a74e3a", func := "bazaar/bazaarlaw14.MailSizes", spec := "mailSizes", inPlace := ["internal/reflectlite.TypeOf"], unfollowed := true, recurses := true, named := ["bazaar/money.errFunds", "bazaar/money.errAmount", "bazaar/money.errOverflow"], apart := false, laid := [("bazaar/money.errAmount", laid_bazaar_money_errAmount), ("bazaar/money.errOverflow", laid_bazaar_money_errOverflow), ("bazaar/money.errFunds", laid_bazaar_money_errFunds)] }
def MailSizesSaid : Prop := mailSizesRow.holds Tryd.pinned (OpenSpec.ofChange mailSizesSpec)

/-- ITS FALSE NEIGHBOUR: 'it returns false'. Refute it at one input. -/
def mailSizesWrong : ChangeSpec := { name := "mailSizes", fn := fun _ => fun
  | [d] => { results := [.lit (.bool false)], args := [d] }
  | _ => none }
def MailSizesWrongFalsely : Prop := mailSizesRow.holds Tryd.pinned (OpenSpec.ofChange mailSizesWrong)

/-- 'bazaarlaw14.MailSends': WHATEVER THE INPUT: true; the input reads as it did. -/
def mailSendsSpec : ChangeSpec := { name := "mailSends", fn := fun _ => fun
  | [d1, d2, d3] => { results := [.lit (.bool true)], args := [d1, d2, d3] }
  | _ => none }
def mailSendsRow : OpenClaim := { program := "ytoclldkgkmhgaaadoor", sum := "a1be2bfecb3f75150f5e43dc8cee41d1171c0689e86fd7fe969285e3b4a74e3a", func := "bazaar/bazaarlaw14.MailSends", spec := "mailSends", inPlace := ["internal/reflectlite.TypeOf"], unfollowed := true, recurses := true, named := ["bazaar/money.errFunds", "bazaar/money.errAmount", "bazaar/money.errOverflow"], apart := false, laid := [("bazaar/money.errAmount", laid_bazaar_money_errAmount), ("bazaar/money.errOverflow", laid_bazaar_money_errOverflow), ("bazaar/money.errFunds", laid_bazaar_money_errFunds)] }
def MailSendsSaid : Prop := mailSendsRow.holds Tryd.pinned (OpenSpec.ofChange mailSendsSpec)

/-- ITS FALSE NEIGHBOUR: 'it returns false'. Refute it at one input. -/
def mailSendsWrong : ChangeSpec := { name := "mailSends", fn := fun _ => fun
  | [d1, d2, d3] => { results := [.lit (.bool false)], args := [d1, d2, d3] }
  | _ => none }
def MailSendsWrongFalsely : Prop := mailSendsRow.holds Tryd.pinned (OpenSpec.ofChange mailSendsWrong)

/-- 'bazaarlaw14.MailOwn': WHATEVER THE INPUT: true; the input reads as it did. -/
def mailOwnSpec : ChangeSpec := { name := "mailOwn", fn := fun _ => fun
  | [d1, d2, d3] => { results := [.lit (.bool true)], args := [d1, d2, d3] }
  | _ => none }
def mailOwnRow : OpenClaim := { program := "ytoclldkgkmhgaaadoor", sum := "a1be2bfecb3f75150f5e43dc8cee41d1171c0689e86fd7fe969285e3b4a74e3a", func := "bazaar/bazaarlaw14.MailOwn", spec := "mailOwn", inPlace := ["internal/reflectlite.TypeOf"], unfollowed := true, recurses := true, named := ["bazaar/money.errFunds", "bazaar/money.errAmount", "bazaar/money.errOverflow"], apart := false, laid := [("bazaar/money.errAmount", laid_bazaar_money_errAmount), ("bazaar/money.errOverflow", laid_bazaar_money_errOverflow), ("bazaar/money.errFunds", laid_bazaar_money_errFunds)] }
def MailOwnSaid : Prop := mailOwnRow.holds Tryd.pinned (OpenSpec.ofChange mailOwnSpec)

/-- ITS FALSE NEIGHBOUR: 'it returns false'. Refute it at one input. -/
def mailOwnWrong : ChangeSpec := { name := "mailOwn", fn := fun _ => fun
  | [d1, d2, d3] => { results := [.lit (.bool false)], args := [d1, d2, d3] }
  | _ => none }
def MailOwnWrongFalsely : Prop := mailOwnRow.holds Tryd.pinned (OpenSpec.ofChange mailOwnWrong)

/-- 'bazaarlaw14.MailMoves': WHATEVER THE INPUT: true; the input reads as it did. -/
def mailMovesSpec : ChangeSpec := { name := "mailMoves", fn := fun _ => fun
  | [d1, d2, d3, d4] => { results := [.lit (.bool true)], args := [d1, d2, d3, d4] }
  | _ => none }
def mailMovesRow : OpenClaim := { program := "ytoclldkgkmhgaaadoor", sum := "a1be2bfecb3f75150f5e43dc8cee41d1171c0689e86fd7fe969285e3b4a74e3a", func := "bazaar/bazaarlaw14.MailMoves", spec := "mailMoves", inPlace := ["internal/reflectlite.TypeOf"], unfollowed := true, recurses := true, named := ["bazaar/money.errFunds", "bazaar/money.errAmount", "bazaar/money.errOverflow"], apart := false, laid := [("bazaar/money.errAmount", laid_bazaar_money_errAmount), ("bazaar/money.errOverflow", laid_bazaar_money_errOverflow), ("bazaar/money.errFunds", laid_bazaar_money_errFunds)] }
def MailMovesSaid : Prop := mailMovesRow.holds Tryd.pinned (OpenSpec.ofChange mailMovesSpec)

/-- ITS FALSE NEIGHBOUR: 'it returns false'. Refute it at one input. -/
def mailMovesWrong : ChangeSpec := { name := "mailMoves", fn := fun _ => fun
  | [d1, d2, d3, d4] => { results := [.lit (.bool false)], args := [d1, d2, d3, d4] }
  | _ => none }
def MailMovesWrongFalsely : Prop := mailMovesRow.holds Tryd.pinned (OpenSpec.ofChange mailMovesWrong)

/-- 'bazaarlaw14.MailBack': WHATEVER THE INPUT: true; the input reads as it did. -/
def mailBackSpec : ChangeSpec := { name := "mailBack", fn := fun _ => fun
  | [d1, d2, d3, d4] => { results := [.lit (.bool true)], args := [d1, d2, d3, d4] }
  | _ => none }
def mailBackRow : OpenClaim := { program := "ytoclldkgkmhgaaadoor", sum := "a1be2bfecb3f75150f5e43dc8cee41d1171c0689e86fd7fe969285e3b4a74e3a", func := "bazaar/bazaarlaw14.MailBack", spec := "mailBack", inPlace := ["internal/reflectlite.TypeOf"], unfollowed := true, recurses := true, named := ["bazaar/money.errFunds", "bazaar/money.errAmount", "bazaar/money.errOverflow"], apart := false, laid := [("bazaar/money.errAmount", laid_bazaar_money_errAmount), ("bazaar/money.errOverflow", laid_bazaar_money_errOverflow), ("bazaar/money.errFunds", laid_bazaar_money_errFunds)] }
def MailBackSaid : Prop := mailBackRow.holds Tryd.pinned (OpenSpec.ofChange mailBackSpec)

/-- ITS FALSE NEIGHBOUR: 'it returns false'. Refute it at one input. -/
def mailBackWrong : ChangeSpec := { name := "mailBack", fn := fun _ => fun
  | [d1, d2, d3, d4] => { results := [.lit (.bool false)], args := [d1, d2, d3, d4] }
  | _ => none }
def MailBackWrongFalsely : Prop := mailBackRow.holds Tryd.pinned (OpenSpec.ofChange mailBackWrong)

/-- 'bazaarlaw15.ShopKeeps': WHATEVER THE INPUT: true; the input reads as it did. -/
def shopKeepsSpec : ChangeSpec := { name := "shopKeeps", fn := fun _ => fun
  | [d1, d2, d3, d4] => { results := [.lit (.bool true)], args := [d1, d2, d3, d4] }
  | _ => none }
def shopKeepsRow : OpenClaim := { program := "ytoclldkgkmhgaaadoor", sum := "a1be2bfecb3f75150f5e43dc8cee41d1171c0689e86fd7fe969285e3b4a74e3a", func := "bazaar/bazaarlaw15.ShopKeeps", spec := "shopKeeps", inPlace := ["internal/reflectlite.TypeOf"], unfollowed := true, recurses := true, named := ["bazaar/money.errOverflow", "bazaar/money.errAmount", "bazaar/money.errFunds"], apart := false, laid := [("bazaar/money.errAmount", laid_bazaar_money_errAmount), ("bazaar/money.errOverflow", laid_bazaar_money_errOverflow), ("bazaar/money.errFunds", laid_bazaar_money_errFunds)] }
def ShopKeepsSaid : Prop := shopKeepsRow.holds Tryd.pinned (OpenSpec.ofChange shopKeepsSpec)

/-- ITS FALSE NEIGHBOUR: 'it returns false'. Refute it at one input. -/
def shopKeepsWrong : ChangeSpec := { name := "shopKeeps", fn := fun _ => fun
  | [d1, d2, d3, d4] => { results := [.lit (.bool false)], args := [d1, d2, d3, d4] }
  | _ => none }
def ShopKeepsWrongFalsely : Prop := shopKeepsRow.holds Tryd.pinned (OpenSpec.ofChange shopKeepsWrong)

/-- 'bazaarlaw15.ShopDoes': WHATEVER THE INPUT: true; the input reads as it did. -/
def shopDoesSpec : ChangeSpec := { name := "shopDoes", fn := fun _ => fun
  | [d1, d2, d3, d4] => { results := [.lit (.bool true)], args := [d1, d2, d3, d4] }
  | _ => none }
def shopDoesRow : OpenClaim := { program := "ytoclldkgkmhgaaadoor", sum := "a1be2bfecb3f75150f5e43dc8cee41d1171c0689e86fd7fe969285e3b4a74e3a", func := "bazaar/bazaarlaw15.ShopDoes", spec := "shopDoes", inPlace := ["internal/reflectlite.TypeOf"], unfollowed := true, recurses := true, named := ["bazaar/money.errOverflow", "bazaar/money.errAmount", "bazaar/money.errFunds"], apart := false, laid := [("bazaar/money.errAmount", laid_bazaar_money_errAmount), ("bazaar/money.errOverflow", laid_bazaar_money_errOverflow), ("bazaar/money.errFunds", laid_bazaar_money_errFunds)] }
def ShopDoesSaid : Prop := shopDoesRow.holds Tryd.pinned (OpenSpec.ofChange shopDoesSpec)

/-- ITS FALSE NEIGHBOUR: 'it returns false'. Refute it at one input. -/
def shopDoesWrong : ChangeSpec := { name := "shopDoes", fn := fun _ => fun
  | [d1, d2, d3, d4] => { results := [.lit (.bool false)], args := [d1, d2, d3, d4] }
  | _ => none }
def ShopDoesWrongFalsely : Prop := shopDoesRow.holds Tryd.pinned (OpenSpec.ofChange shopDoesWrong)

/-- 'bazaarlaw15.ShopOwn': WHATEVER THE INPUT: true; the input reads as it did. -/
def shopOwnSpec : ChangeSpec := { name := "shopOwn", fn := fun _ => fun
  | [d1, d2] => { results := [.lit (.bool true)], args := [d1, d2] }
  | _ => none }
def shopOwnRow : OpenClaim := { program := "ytoclldkgkmhgaaadoor", sum := "a1be2bfecb3f75150f5e43dc8cee41d1171c0689e86fd7fe969285e3b4a74e3a", func := "bazaar/bazaarlaw15.ShopOwn", spec := "shopOwn", inPlace := ["internal/reflectlite.TypeOf"], unfollowed := true, recurses := true, named := ["bazaar/money.errOverflow", "bazaar/money.errAmount", "bazaar/money.errFunds"], apart := false, laid := [("bazaar/money.errAmount", laid_bazaar_money_errAmount), ("bazaar/money.errOverflow", laid_bazaar_money_errOverflow), ("bazaar/money.errFunds", laid_bazaar_money_errFunds)] }
def ShopOwnSaid : Prop := shopOwnRow.holds Tryd.pinned (OpenSpec.ofChange shopOwnSpec)

/-- ITS FALSE NEIGHBOUR: 'it returns false'. Refute it at one input. -/
def shopOwnWrong : ChangeSpec := { name := "shopOwn", fn := fun _ => fun
  | [d1, d2] => { results := [.lit (.bool false)], args := [d1, d2] }
  | _ => none }
def ShopOwnWrongFalsely : Prop := shopOwnRow.holds Tryd.pinned (OpenSpec.ofChange shopOwnWrong)

/-- 'bazaarlaw15.ShopBytes': WHATEVER THE INPUT: true; the input reads as it did. -/
def shopBytesSpec : ChangeSpec := { name := "shopBytes", fn := fun _ => fun
  | [d1, d2] => { results := [.lit (.bool true)], args := [d1, d2] }
  | _ => none }
def shopBytesRow : OpenClaim := { program := "ytoclldkgkmhgaaadoor", sum := "a1be2bfecb3f75150f5e43dc8cee41d1171c0689e86fd7fe969285e3b4a74e3a", func := "bazaar/bazaarlaw15.ShopBytes", spec := "shopBytes", inPlace := ["internal/reflectlite.TypeOf"], unfollowed := true, recurses := true, named := ["bazaar/money.errOverflow", "bazaar/money.errAmount", "bazaar/money.errFunds"], apart := false, laid := [("bazaar/money.errAmount", laid_bazaar_money_errAmount), ("bazaar/money.errOverflow", laid_bazaar_money_errOverflow), ("bazaar/money.errFunds", laid_bazaar_money_errFunds)] }
def ShopBytesSaid : Prop := shopBytesRow.holds Tryd.pinned (OpenSpec.ofChange shopBytesSpec)

/-- ITS FALSE NEIGHBOUR: 'it returns false'. Refute it at one input. -/
def shopBytesWrong : ChangeSpec := { name := "shopBytes", fn := fun _ => fun
  | [d1, d2] => { results := [.lit (.bool false)], args := [d1, d2] }
  | _ => none }
def ShopBytesWrongFalsely : Prop := shopBytesRow.holds Tryd.pinned (OpenSpec.ofChange shopBytesWrong)

/-- 'bazaarlaw15.ShopSizes': WHATEVER THE INPUT: true; the input reads as it did. -/
def shopSizesSpec : ChangeSpec := { name := "shopSizes", fn := fun _ => fun
  | [d] => { results := [.lit (.bool true)], args := [d] }
  | _ => none }
def shopSizesRow : OpenClaim := { program := "ytoclldkgkmhgaaadoor", sum := "a1be2bfecb3f75150f5e43dc8cee41d1171c0689e86fd7fe969285e3b4a74e3a", func := "bazaar/bazaarlaw15.ShopSizes", spec := "shopSizes", inPlace := ["internal/reflectlite.TypeOf"], unfollowed := true, recurses := true, named := ["bazaar/money.errOverflow", "bazaar/money.errAmount", "bazaar/money.errFunds"], apart := false, laid := [("bazaar/money.errAmount", laid_bazaar_money_errAmount), ("bazaar/money.errOverflow", laid_bazaar_money_errOverflow), ("bazaar/money.errFunds", laid_bazaar_money_errFunds)] }
def ShopSizesSaid : Prop := shopSizesRow.holds Tryd.pinned (OpenSpec.ofChange shopSizesSpec)

/-- ITS FALSE NEIGHBOUR: 'it returns false'. Refute it at one input. -/
def shopSizesWrong : ChangeSpec := { name := "shopSizes", fn := fun _ => fun
  | [d] => { results := [.lit (.bool false)], args := [d] }
  | _ => none }
def ShopSizesWrongFalsely : Prop := shopSizesRow.holds Tryd.pinned (OpenSpec.ofChange shopSizesWrong)

/-- 'bazaarlaw15.ShopBack': WHATEVER THE INPUT: true; the input reads as it did. -/
def shopBackSpec : ChangeSpec := { name := "shopBack", fn := fun _ => fun
  | [d1, d2, d3] => { results := [.lit (.bool true)], args := [d1, d2, d3] }
  | _ => none }
def shopBackRow : OpenClaim := { program := "ytoclldkgkmhgaaadoor", sum := "a1be2bfecb3f75150f5e43dc8cee41d1171c0689e86fd7fe969285e3b4a74e3a", func := "bazaar/bazaarlaw15.ShopBack", spec := "shopBack", inPlace := ["internal/reflectlite.TypeOf"], unfollowed := true, recurses := true, named := ["bazaar/money.errOverflow", "bazaar/money.errAmount", "bazaar/money.errFunds"], apart := false, laid := [("bazaar/money.errAmount", laid_bazaar_money_errAmount), ("bazaar/money.errOverflow", laid_bazaar_money_errOverflow), ("bazaar/money.errFunds", laid_bazaar_money_errFunds)] }
def ShopBackSaid : Prop := shopBackRow.holds Tryd.pinned (OpenSpec.ofChange shopBackSpec)

/-- ITS FALSE NEIGHBOUR: 'it returns false'. Refute it at one input. -/
def shopBackWrong : ChangeSpec := { name := "shopBack", fn := fun _ => fun
  | [d1, d2, d3] => { results := [.lit (.bool false)], args := [d1, d2, d3] }
  | _ => none }
def ShopBackWrongFalsely : Prop := shopBackRow.holds Tryd.pinned (OpenSpec.ofChange shopBackWrong)

/- THE SECOND FORM. 'bulk': how many values and letters a reading holds, each counted each time it is reached (what is shared counts as often as it is met; a slice's spare places count too). A statement '..UptoSaid' is the law's where the arguments, and the package variables that the reading takes, are together of bulk at most 1048576: NARROWER than '..Said'. Prove '..Said' where nothing that the law and all that it calls make is longer than what came in: it says more and counts as full. Else prove '..UptoSaid'. A law counts once. -/
mutual
def uptoBulk {H : Type} : DataW H → Nat
  | .lit (.string bytes) => bytes.length + 1
  | .lit _ => 1
  | .nil => 1
  | .ptr d => uptoBulk d + 1
  | .slice elems spare => uptoBulkAll elems + uptoBulkAll spare + 1
  | .agg parts => uptoBulkAll parts + 1
  | .iface _ d => uptoBulk d + 1
  | .map entries => uptoBulkEntries entries + 1
  | .held _ => 1
def uptoBulkAll {H : Type} : List (DataW H) → Nat
  | [] => 0
  | d :: r => uptoBulk d + uptoBulkAll r
def uptoBulkEntries {H : Type} : List (Lit × DataW H) → Nat
  | [] => 0
  | x :: r => uptoBulkEntry x + uptoBulkEntries r
def uptoBulkEntry {H : Type} : Lit × DataW H → Nat
  | (.string bytes, d) => bytes.length + uptoBulk d + 1
  | (_, d) => uptoBulk d + 1
 end
def uptoSmall : (H : Type) → List (DataW H) → Bool := fun _ ds => decide (uptoBulkAll ds ≤ 1048576)
def OpenSpec.upto (s : _root_.Go.ChangeSpec) : _root_.Go.OpenSpec := { _root_.Go.OpenSpec.ofChange s with cond := some uptoSmall }

/-- 'bazaarlaw14.MailBytes', WHERE WHAT IT READS IS OF BULK AT MOST 1048576: true; the input reads as it did. -/
def mailBytesUptoRow : OpenClaim := { program := "ytoclldkgkmhgaaadoor", sum := "a1be2bfecb3f75150f5e43dc8cee41d1171c0689e86fd7fe969285e3b4a74e3a", func := "bazaar/bazaarlaw14.MailBytes", spec := "mailBytes", inPlace := ["internal/reflectlite.TypeOf"], unfollowed := true, recurses := true, named := ["bazaar/money.errFunds", "bazaar/money.errAmount", "bazaar/money.errOverflow"], apart := false, laid := [("bazaar/money.errAmount", laid_bazaar_money_errAmount), ("bazaar/money.errOverflow", laid_bazaar_money_errOverflow), ("bazaar/money.errFunds", laid_bazaar_money_errFunds)], narrowed := true }
def MailBytesUptoSaid : Prop := mailBytesUptoRow.holds Tryd.pinned (OpenSpec.upto mailBytesSpec)

/-- 'bazaarlaw14.MailSizes', WHERE WHAT IT READS IS OF BULK AT MOST 1048576: true; the input reads as it did. -/
def mailSizesUptoRow : OpenClaim := { program := "ytoclldkgkmhgaaadoor", sum := "a1be2bfecb3f75150f5e43dc8cee41d1171c0689e86fd7fe969285e3b4a74e3a", func := "bazaar/bazaarlaw14.MailSizes", spec := "mailSizes", inPlace := ["internal/reflectlite.TypeOf"], unfollowed := true, recurses := true, named := ["bazaar/money.errFunds", "bazaar/money.errAmount", "bazaar/money.errOverflow"], apart := false, laid := [("bazaar/money.errAmount", laid_bazaar_money_errAmount), ("bazaar/money.errOverflow", laid_bazaar_money_errOverflow), ("bazaar/money.errFunds", laid_bazaar_money_errFunds)], narrowed := true }
def MailSizesUptoSaid : Prop := mailSizesUptoRow.holds Tryd.pinned (OpenSpec.upto mailSizesSpec)

/-- 'bazaarlaw14.MailSends', WHERE WHAT IT READS IS OF BULK AT MOST 1048576: true; the input reads as it did. -/
def mailSendsUptoRow : OpenClaim := { program := "ytoclldkgkmhgaaadoor", sum := "a1be2bfecb3f75150f5e43dc8cee41d1171c0689e86fd7fe969285e3b4a74e3a", func := "bazaar/bazaarlaw14.MailSends", spec := "mailSends", inPlace := ["internal/reflectlite.TypeOf"], unfollowed := true, recurses := true, named := ["bazaar/money.errFunds", "bazaar/money.errAmount", "bazaar/money.errOverflow"], apart := false, laid := [("bazaar/money.errAmount", laid_bazaar_money_errAmount), ("bazaar/money.errOverflow", laid_bazaar_money_errOverflow), ("bazaar/money.errFunds", laid_bazaar_money_errFunds)], narrowed := true }
def MailSendsUptoSaid : Prop := mailSendsUptoRow.holds Tryd.pinned (OpenSpec.upto mailSendsSpec)

/-- 'bazaarlaw14.MailOwn', WHERE WHAT IT READS IS OF BULK AT MOST 1048576: true; the input reads as it did. -/
def mailOwnUptoRow : OpenClaim := { program := "ytoclldkgkmhgaaadoor", sum := "a1be2bfecb3f75150f5e43dc8cee41d1171c0689e86fd7fe969285e3b4a74e3a", func := "bazaar/bazaarlaw14.MailOwn", spec := "mailOwn", inPlace := ["internal/reflectlite.TypeOf"], unfollowed := true, recurses := true, named := ["bazaar/money.errFunds", "bazaar/money.errAmount", "bazaar/money.errOverflow"], apart := false, laid := [("bazaar/money.errAmount", laid_bazaar_money_errAmount), ("bazaar/money.errOverflow", laid_bazaar_money_errOverflow), ("bazaar/money.errFunds", laid_bazaar_money_errFunds)], narrowed := true }
def MailOwnUptoSaid : Prop := mailOwnUptoRow.holds Tryd.pinned (OpenSpec.upto mailOwnSpec)

/-- 'bazaarlaw14.MailMoves', WHERE WHAT IT READS IS OF BULK AT MOST 1048576: true; the input reads as it did. -/
def mailMovesUptoRow : OpenClaim := { program := "ytoclldkgkmhgaaadoor", sum := "a1be2bfecb3f75150f5e43dc8cee41d1171c0689e86fd7fe969285e3b4a74e3a", func := "bazaar/bazaarlaw14.MailMoves", spec := "mailMoves", inPlace := ["internal/reflectlite.TypeOf"], unfollowed := true, recurses := true, named := ["bazaar/money.errFunds", "bazaar/money.errAmount", "bazaar/money.errOverflow"], apart := false, laid := [("bazaar/money.errAmount", laid_bazaar_money_errAmount), ("bazaar/money.errOverflow", laid_bazaar_money_errOverflow), ("bazaar/money.errFunds", laid_bazaar_money_errFunds)], narrowed := true }
def MailMovesUptoSaid : Prop := mailMovesUptoRow.holds Tryd.pinned (OpenSpec.upto mailMovesSpec)

/-- 'bazaarlaw14.MailBack', WHERE WHAT IT READS IS OF BULK AT MOST 1048576: true; the input reads as it did. -/
def mailBackUptoRow : OpenClaim := { program := "ytoclldkgkmhgaaadoor", sum := "a1be2bfecb3f75150f5e43dc8cee41d1171c0689e86fd7fe969285e3b4a74e3a", func := "bazaar/bazaarlaw14.MailBack", spec := "mailBack", inPlace := ["internal/reflectlite.TypeOf"], unfollowed := true, recurses := true, named := ["bazaar/money.errFunds", "bazaar/money.errAmount", "bazaar/money.errOverflow"], apart := false, laid := [("bazaar/money.errAmount", laid_bazaar_money_errAmount), ("bazaar/money.errOverflow", laid_bazaar_money_errOverflow), ("bazaar/money.errFunds", laid_bazaar_money_errFunds)], narrowed := true }
def MailBackUptoSaid : Prop := mailBackUptoRow.holds Tryd.pinned (OpenSpec.upto mailBackSpec)

/-- 'bazaarlaw15.ShopKeeps', WHERE WHAT IT READS IS OF BULK AT MOST 1048576: true; the input reads as it did. -/
def shopKeepsUptoRow : OpenClaim := { program := "ytoclldkgkmhgaaadoor", sum := "a1be2bfecb3f75150f5e43dc8cee41d1171c0689e86fd7fe969285e3b4a74e3a", func := "bazaar/bazaarlaw15.ShopKeeps", spec := "shopKeeps", inPlace := ["internal/reflectlite.TypeOf"], unfollowed := true, recurses := true, named := ["bazaar/money.errOverflow", "bazaar/money.errAmount", "bazaar/money.errFunds"], apart := false, laid := [("bazaar/money.errAmount", laid_bazaar_money_errAmount), ("bazaar/money.errOverflow", laid_bazaar_money_errOverflow), ("bazaar/money.errFunds", laid_bazaar_money_errFunds)], narrowed := true }
def ShopKeepsUptoSaid : Prop := shopKeepsUptoRow.holds Tryd.pinned (OpenSpec.upto shopKeepsSpec)

/-- 'bazaarlaw15.ShopDoes', WHERE WHAT IT READS IS OF BULK AT MOST 1048576: true; the input reads as it did. -/
def shopDoesUptoRow : OpenClaim := { program := "ytoclldkgkmhgaaadoor", sum := "a1be2bfecb3f75150f5e43dc8cee41d1171c0689e86fd7fe969285e3b4a74e3a", func := "bazaar/bazaarlaw15.ShopDoes", spec := "shopDoes", inPlace := ["internal/reflectlite.TypeOf"], unfollowed := true, recurses := true, named := ["bazaar/money.errOverflow", "bazaar/money.errAmount", "bazaar/money.errFunds"], apart := false, laid := [("bazaar/money.errAmount", laid_bazaar_money_errAmount), ("bazaar/money.errOverflow", laid_bazaar_money_errOverflow), ("bazaar/money.errFunds", laid_bazaar_money_errFunds)], narrowed := true }
def ShopDoesUptoSaid : Prop := shopDoesUptoRow.holds Tryd.pinned (OpenSpec.upto shopDoesSpec)

/-- 'bazaarlaw15.ShopOwn', WHERE WHAT IT READS IS OF BULK AT MOST 1048576: true; the input reads as it did. -/
def shopOwnUptoRow : OpenClaim := { program := "ytoclldkgkmhgaaadoor", sum := "a1be2bfecb3f75150f5e43dc8cee41d1171c0689e86fd7fe969285e3b4a74e3a", func := "bazaar/bazaarlaw15.ShopOwn", spec := "shopOwn", inPlace := ["internal/reflectlite.TypeOf"], unfollowed := true, recurses := true, named := ["bazaar/money.errOverflow", "bazaar/money.errAmount", "bazaar/money.errFunds"], apart := false, laid := [("bazaar/money.errAmount", laid_bazaar_money_errAmount), ("bazaar/money.errOverflow", laid_bazaar_money_errOverflow), ("bazaar/money.errFunds", laid_bazaar_money_errFunds)], narrowed := true }
def ShopOwnUptoSaid : Prop := shopOwnUptoRow.holds Tryd.pinned (OpenSpec.upto shopOwnSpec)

/-- 'bazaarlaw15.ShopBytes', WHERE WHAT IT READS IS OF BULK AT MOST 1048576: true; the input reads as it did. -/
def shopBytesUptoRow : OpenClaim := { program := "ytoclldkgkmhgaaadoor", sum := "a1be2bfecb3f75150f5e43dc8cee41d1171c0689e86fd7fe969285e3b4a74e3a", func := "bazaar/bazaarlaw15.ShopBytes", spec := "shopBytes", inPlace := ["internal/reflectlite.TypeOf"], unfollowed := true, recurses := true, named := ["bazaar/money.errOverflow", "bazaar/money.errAmount", "bazaar/money.errFunds"], apart := false, laid := [("bazaar/money.errAmount", laid_bazaar_money_errAmount), ("bazaar/money.errOverflow", laid_bazaar_money_errOverflow), ("bazaar/money.errFunds", laid_bazaar_money_errFunds)], narrowed := true }
def ShopBytesUptoSaid : Prop := shopBytesUptoRow.holds Tryd.pinned (OpenSpec.upto shopBytesSpec)

/-- 'bazaarlaw15.ShopSizes', WHERE WHAT IT READS IS OF BULK AT MOST 1048576: true; the input reads as it did. -/
def shopSizesUptoRow : OpenClaim := { program := "ytoclldkgkmhgaaadoor", sum := "a1be2bfecb3f75150f5e43dc8cee41d1171c0689e86fd7fe969285e3b4a74e3a", func := "bazaar/bazaarlaw15.ShopSizes", spec := "shopSizes", inPlace := ["internal/reflectlite.TypeOf"], unfollowed := true, recurses := true, named := ["bazaar/money.errOverflow", "bazaar/money.errAmount", "bazaar/money.errFunds"], apart := false, laid := [("bazaar/money.errAmount", laid_bazaar_money_errAmount), ("bazaar/money.errOverflow", laid_bazaar_money_errOverflow), ("bazaar/money.errFunds", laid_bazaar_money_errFunds)], narrowed := true }
def ShopSizesUptoSaid : Prop := shopSizesUptoRow.holds Tryd.pinned (OpenSpec.upto shopSizesSpec)

/-- 'bazaarlaw15.ShopBack', WHERE WHAT IT READS IS OF BULK AT MOST 1048576: true; the input reads as it did. -/
def shopBackUptoRow : OpenClaim := { program := "ytoclldkgkmhgaaadoor", sum := "a1be2bfecb3f75150f5e43dc8cee41d1171c0689e86fd7fe969285e3b4a74e3a", func := "bazaar/bazaarlaw15.ShopBack", spec := "shopBack", inPlace := ["internal/reflectlite.TypeOf"], unfollowed := true, recurses := true, named := ["bazaar/money.errOverflow", "bazaar/money.errAmount", "bazaar/money.errFunds"], apart := false, laid := [("bazaar/money.errAmount", laid_bazaar_money_errAmount), ("bazaar/money.errOverflow", laid_bazaar_money_errOverflow), ("bazaar/money.errFunds", laid_bazaar_money_errFunds)], narrowed := true }
def ShopBackUptoSaid : Prop := shopBackUptoRow.holds Tryd.pinned (OpenSpec.upto shopBackSpec)

end Rows
end Go.Proofs.YtoclldkgkmhgaaaDoor
