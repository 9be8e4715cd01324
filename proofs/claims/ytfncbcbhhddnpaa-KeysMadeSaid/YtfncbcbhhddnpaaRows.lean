/-
  No cell of these rows narrows 'for every input' (looked for: loops, veiled, ifaces, maps, wideKeys, modest, calm, conditions, laid).
  DERIVED. THE GIVEN ROWS OF THIS SEAT. 5 by the template 'for every input the law returns true; each argument reads behind the call as it read before'; 0 by the template 'total and deterministic' (their statements: YtfncbcbhhddnpaaTotals.lean).
  GIVEN WITH THE SEED: the statements are not yours to turn. If you find one false, say at which input.
  Laid BY PROGRAM, IN A SANDBOX (cutbox-rows.mjs): the forced cells as the released guide's own fill.sh prints them over the translation b3975d866e63bc1e… (all of the seat's roots in one cut). By AI agents, Wed Nov 11 2026. No macro, syntax, notation, axiom, sorry.
-/
import Derived.Test.YtfncbcbhhddnpaaChecked
import GoSem.Claim
import GoSem.ClaimJoined
import GoSem.ClaimMapViews
import Derived.JoinedTies
import Derived.KernelRfl
namespace Go.Proofs.Ytfncbcbhhddnpaa
/- THE CELL 'sum', in the pinned program and in every row, IS THE sha256 OF THE DUMP (.gsa) THAT YtfncbcbhhddnpaaProg.lean LOADS. Nothing in Lean hashes anything: it is a label: what it is worth is what the hold of that sum in a sandbox is worth. -/
noncomputable def Try.pinned : Pinned := { name := "ytfncbcbhhddnpaa", sum := "b3975d866e63bc1e7f18ae859e1355073fa6f8b2274725b67570da55c4f93419", checked := Try.checked }
namespace Rows
def none {H : Type} : Left H := { results := [], args := [] }

/-- 'bazaarlaw10.KeysMade': WHATEVER THE INPUT: true; the input reads as it did. -/
def keysMadeSpec : ChangeSpec := { name := "keysMade", fn := fun _ => fun
  | [d1, d2] => { results := [.lit (.bool true)], args := [d1, d2] }
  | _ => none }
def keysMadeRow : OpenClaim := { program := "ytfncbcbhhddnpaa", sum := "b3975d866e63bc1e7f18ae859e1355073fa6f8b2274725b67570da55c4f93419", func := "bazaar/bazaarlaw10.KeysMade", spec := "keysMade", unfollowed := true, recurses := true, apart := false }
def KeysMadeSaid : Prop := keysMadeRow.holds Try.pinned (OpenSpec.ofChange keysMadeSpec)

/-- ITS FALSE NEIGHBOUR: 'it returns false'. Refute it at one input. -/
def keysMadeWrong : ChangeSpec := { name := "keysMade", fn := fun _ => fun
  | [d1, d2] => { results := [.lit (.bool false)], args := [d1, d2] }
  | _ => none }
def KeysMadeWrongFalsely : Prop := keysMadeRow.holds Try.pinned (OpenSpec.ofChange keysMadeWrong)

/-- 'bazaarlaw10.KeysBack': WHATEVER THE INPUT: true; the input reads as it did. -/
def keysBackSpec : ChangeSpec := { name := "keysBack", fn := fun _ => fun
  | [d1, d2] => { results := [.lit (.bool true)], args := [d1, d2] }
  | _ => none }
def keysBackRow : OpenClaim := { program := "ytfncbcbhhddnpaa", sum := "b3975d866e63bc1e7f18ae859e1355073fa6f8b2274725b67570da55c4f93419", func := "bazaar/bazaarlaw10.KeysBack", spec := "keysBack", unfollowed := true, recurses := true, apart := false }
def KeysBackSaid : Prop := keysBackRow.holds Try.pinned (OpenSpec.ofChange keysBackSpec)

/-- ITS FALSE NEIGHBOUR: 'it returns false'. Refute it at one input. -/
def keysBackWrong : ChangeSpec := { name := "keysBack", fn := fun _ => fun
  | [d1, d2] => { results := [.lit (.bool false)], args := [d1, d2] }
  | _ => none }
def KeysBackWrongFalsely : Prop := keysBackRow.holds Try.pinned (OpenSpec.ofChange keysBackWrong)

/-- 'bazaarlaw10.KeysOrder': WHATEVER THE INPUT: true; the input reads as it did. -/
def keysOrderSpec : ChangeSpec := { name := "keysOrder", fn := fun _ => fun
  | [d1, d2] => { results := [.lit (.bool true)], args := [d1, d2] }
  | _ => none }
def keysOrderRow : OpenClaim := { program := "ytfncbcbhhddnpaa", sum := "b3975d866e63bc1e7f18ae859e1355073fa6f8b2274725b67570da55c4f93419", func := "bazaar/bazaarlaw10.KeysOrder", spec := "keysOrder", unfollowed := true, recurses := true, apart := false }
def KeysOrderSaid : Prop := keysOrderRow.holds Try.pinned (OpenSpec.ofChange keysOrderSpec)

/-- ITS FALSE NEIGHBOUR: 'it returns false'. Refute it at one input. -/
def keysOrderWrong : ChangeSpec := { name := "keysOrder", fn := fun _ => fun
  | [d1, d2] => { results := [.lit (.bool false)], args := [d1, d2] }
  | _ => none }
def KeysOrderWrongFalsely : Prop := keysOrderRow.holds Try.pinned (OpenSpec.ofChange keysOrderWrong)

/-- 'bazaarlaw10.KeysApart': WHATEVER THE INPUT: true; the input reads as it did. -/
def keysApartSpec : ChangeSpec := { name := "keysApart", fn := fun _ => fun
  | [d1, d2] => { results := [.lit (.bool true)], args := [d1, d2] }
  | _ => none }
def keysApartRow : OpenClaim := { program := "ytfncbcbhhddnpaa", sum := "b3975d866e63bc1e7f18ae859e1355073fa6f8b2274725b67570da55c4f93419", func := "bazaar/bazaarlaw10.KeysApart", spec := "keysApart", unfollowed := true, recurses := true, apart := false }
def KeysApartSaid : Prop := keysApartRow.holds Try.pinned (OpenSpec.ofChange keysApartSpec)

/-- ITS FALSE NEIGHBOUR: 'it returns false'. Refute it at one input. -/
def keysApartWrong : ChangeSpec := { name := "keysApart", fn := fun _ => fun
  | [d1, d2] => { results := [.lit (.bool false)], args := [d1, d2] }
  | _ => none }
def KeysApartWrongFalsely : Prop := keysApartRow.holds Try.pinned (OpenSpec.ofChange keysApartWrong)

/-- 'bazaarlaw10.KeysOf': WHATEVER THE INPUT: true; the input reads as it did. -/
def keysOfSpec : ChangeSpec := { name := "keysOf", fn := fun _ => fun
  | [d1, d2, d3] => { results := [.lit (.bool true)], args := [d1, d2, d3] }
  | _ => none }
def keysOfRow : OpenClaim := { program := "ytfncbcbhhddnpaa", sum := "b3975d866e63bc1e7f18ae859e1355073fa6f8b2274725b67570da55c4f93419", func := "bazaar/bazaarlaw10.KeysOf", spec := "keysOf", unfollowed := true, recurses := true, apart := false }
def KeysOfSaid : Prop := keysOfRow.holds Try.pinned (OpenSpec.ofChange keysOfSpec)

/-- ITS FALSE NEIGHBOUR: 'it returns false'. Refute it at one input. -/
def keysOfWrong : ChangeSpec := { name := "keysOf", fn := fun _ => fun
  | [d1, d2, d3] => { results := [.lit (.bool false)], args := [d1, d2, d3] }
  | _ => none }
def KeysOfWrongFalsely : Prop := keysOfRow.holds Try.pinned (OpenSpec.ofChange keysOfWrong)

/- THE SECOND FORM. 'bulk': how many values and letters a reading holds, each counted each time it is reached (what is shared counts as often as it is met; a slice's spare places count too). A statement '..UptoSaid' is the law's where the arguments, and the package variables that the reading takes, are together of bulk at most 1048576: NARROWER than '..Said'. Prove '..Said' where nothing that the law and all that it calls make is longer than what came in: it says more and counts as full. Else prove '..UptoSaid'. A law counts once. -/
mutual
def uptoBulk {H : Type} : DataW H → Nat
  | .lit (.string bytes) => bytes.length + 1
  | .lit _ => 1
  | .nil => 1
  | .ptr d => uptoBulk d + 1
  | .slice elems spare => uptoBulkAll elems + uptoBulkAll spare + 1
  | .agg parts => uptoBulkAll parts + 1
  | .iface _ d => uptoBulk d + 1
  | .map entries => uptoBulkEntries entries + 1
  | .held _ => 1
def uptoBulkAll {H : Type} : List (DataW H) → Nat
  | [] => 0
  | d :: r => uptoBulk d + uptoBulkAll r
def uptoBulkEntries {H : Type} : List (Lit × DataW H) → Nat
  | [] => 0
  | x :: r => uptoBulkEntry x + uptoBulkEntries r
def uptoBulkEntry {H : Type} : Lit × DataW H → Nat
  | (.string bytes, d) => bytes.length + uptoBulk d + 1
  | (_, d) => uptoBulk d + 1
 end
def uptoSmall : (H : Type) → List (DataW H) → Bool := fun _ ds => decide (uptoBulkAll ds ≤ 1048576)
def OpenSpec.upto (s : _root_.Go.ChangeSpec) : _root_.Go.OpenSpec := { _root_.Go.OpenSpec.ofChange s with cond := some uptoSmall }

/-- 'bazaarlaw10.KeysMade', WHERE WHAT IT READS IS OF BULK AT MOST 1048576: true; the input reads as it did. -/
def keysMadeUptoRow : OpenClaim := { program := "ytfncbcbhhddnpaa", sum := "b3975d866e63bc1e7f18ae859e1355073fa6f8b2274725b67570da55c4f93419", func := "bazaar/bazaarlaw10.KeysMade", spec := "keysMade", unfollowed := true, recurses := true, apart := false, narrowed := true }
def KeysMadeUptoSaid : Prop := keysMadeUptoRow.holds Try.pinned (OpenSpec.upto keysMadeSpec)

/-- 'bazaarlaw10.KeysBack', WHERE WHAT IT READS IS OF BULK AT MOST 1048576: true; the input reads as it did. -/
def keysBackUptoRow : OpenClaim := { program := "ytfncbcbhhddnpaa", sum := "b3975d866e63bc1e7f18ae859e1355073fa6f8b2274725b67570da55c4f93419", func := "bazaar/bazaarlaw10.KeysBack", spec := "keysBack", unfollowed := true, recurses := true, apart := false, narrowed := true }
def KeysBackUptoSaid : Prop := keysBackUptoRow.holds Try.pinned (OpenSpec.upto keysBackSpec)

/-- 'bazaarlaw10.KeysOrder', WHERE WHAT IT READS IS OF BULK AT MOST 1048576: true; the input reads as it did. -/
def keysOrderUptoRow : OpenClaim := { program := "ytfncbcbhhddnpaa", sum := "b3975d866e63bc1e7f18ae859e1355073fa6f8b2274725b67570da55c4f93419", func := "bazaar/bazaarlaw10.KeysOrder", spec := "keysOrder", unfollowed := true, recurses := true, apart := false, narrowed := true }
def KeysOrderUptoSaid : Prop := keysOrderUptoRow.holds Try.pinned (OpenSpec.upto keysOrderSpec)

/-- 'bazaarlaw10.KeysApart', WHERE WHAT IT READS IS OF BULK AT MOST 1048576: true; the input reads as it did. -/
def keysApartUptoRow : OpenClaim := { program := "ytfncbcbhhddnpaa", sum := "b3975d866e63bc1e7f18ae859e1355073fa6f8b2274725b67570da55c4f93419", func := "bazaar/bazaarlaw10.KeysApart", spec := "keysApart", unfollowed := true, recurses := true, apart := false, narrowed := true }
def KeysApartUptoSaid : Prop := keysApartUptoRow.holds Try.pinned (OpenSpec.upto keysApartSpec)

/-- 'bazaarlaw10.KeysOf', WHERE WHAT IT READS IS OF BULK AT MOST 1048576: true; the input reads as it did. -/
def keysOfUptoRow : OpenClaim := { program := "ytfncbcbhhddnpaa", sum := "b3975d866e63bc1e7f18ae859e1355073fa6f8b2274725b67570da55c4f93419", func := "bazaar/bazaarlaw10.KeysOf", spec := "keysOf", unfollowed := true, recurses := true, apart := false, narrowed := true }
def KeysOfUptoSaid : Prop := keysOfUptoRow.holds Try.pinned (OpenSpec.upto keysOfSpec)

end Rows
end Go.Proofs.Ytfncbcbhhddnpaa
