-- Printed by a program of this session (a turned copy of the print); what it takes as given stands in the seat's own texts.
import Derived.Test.YtfncbcbhhddnpaaDoorProg
import Derived.Test.YtfncbcbhhddnpaaDoorMIs
import Derived.Below
import Derived.Deep.Draws
import Derived.Deep.AppendLies
import Derived.Maps.AppendAt
import Derived.OwnWalk
import Derived.Laws.BytesArg
import Derived.Laws.MakeOwn
import Derived.Laws.OwnMore
import Derived.Deep.OwnRows
import Derived.Tactics
import Derived.Lib.ConvBytes
import Derived.Laws.Slices
import Derived.WalkKit
import Derived.KernelRfl
import Derived.RowKit3
import Derived.Deep.LoopGhost
import Derived.Deep.QuietTactic
import Derived.BigQuiet
import Derived.WideLaws
import Derived.Deep.DeepCutAuto
import Derived.Deep.CutBlock
import Derived.Deep.RegionHeld3
import Derived.Laws.Rows
import Derived.Lib.AppendStr
import Derived.ArgAppend
import Derived.Laws.IdiomCopy
import Derived.OrdersHeld
import Derived.Laws.BitsLemmas
import Derived.RowKit
import Derived.Test.YtfncbcbhhddnpaaDoorWWords
import Derived.Test.YtfncbcbhhddnpaaDoorWLast
import Derived.Test.YtfncbcbhhddnpaaDoorWTab
import Derived.Test.YtfncbcbhhddnpaaDoorWFour
import Derived.Test.YtfncbcbhhddnpaaDoorWQPut
import Derived.Test.YtfncbcbhhddnpaaDoorWApart
import Derived.Test.YtfncbcbhhddnpaaDoorWArr
import Derived.Test.YtfncbcbhhddnpaaDoorWZeros
import Derived.Test.YtfncbcbhhddnpaaDoorWFoot
import Derived.Test.YtfncbcbhhddnpaaDoorWKept
import Derived.Test.YtfncbcbhhddnpaaDoorWShare
import Derived.Test.YtfncbcbhhddnpaaDoorWN
import Derived.Test.YtfncbcbhhddnpaaDoorWFootNe
import Derived.Test.YtfncbcbhhddnpaaDoorWAt
import Derived.Test.YtfncbcbhhddnpaaDoorWEqStruct
import Derived.Test.YtfncbcbhhddnpaaDoorWRepsOne
import Derived.Test.YtfncbcbhhddnpaaDoorWInv
import Derived.Test.YtfncbcbhhddnpaaDoorWInvWords
import Derived.Test.YtfncbcbhhddnpaaDoorWGuard
import Derived.Test.YtfncbcbhhddnpaaDoorWNEv
import Derived.Test.YtfncbcbhhddnpaaDoorWMore
namespace Go.Proofs.YtfncbcbhhddnpaaDoor.K
open Go.RowKit Go.Proofs.YtfncbcbhhddnpaaDoorW.PrintWords Go.Proofs.YtfncbcbhhddnpaaDoorW.PrintLast Go.Proofs.YtfncbcbhhddnpaaDoorW.PrintMore
attribute [local go_sem] max2_int min2_int max_two min_two max_three min_three max_four min_four   -- for this text's walks alone
set_option linter.unusedVariables false
set_option linter.unusedSimpArgs false



def errW : Option Int → Value
  | none => .nilIface
  | some c => .iface 0 (.int .i64 c)
theorem errW_none : errW none = .nilIface := rfl
theorem errW_some (c : Int) : errW (some c) = .iface 0 (.int .i64 c) := rfl

theorem info2 : (Tryd.prog.info? 2).map (fun i => (i.zero, i.size, i.bytes)) = some (some (.int .i64 0), 1, 8) := by kernel_rfl
theorem info5 : (Tryd.prog.info? 5).map (fun i => (i.zero, i.size, i.bytes)) = some (some (.int .u8 0), 1, 1) := by kernel_rfl
-- the values' own types

end Go.Proofs.YtfncbcbhhddnpaaDoor.K
