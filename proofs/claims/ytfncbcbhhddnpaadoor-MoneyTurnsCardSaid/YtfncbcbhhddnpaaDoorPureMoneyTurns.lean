/- MoneyTurns's plain law. -/
import Derived.Test.YtfncbcbhhddnpaaDoorKx9
import Derived.Test.YtfncbcbhhddnpaaDoorPLib
namespace Go.Proofs.YtfncbcbhhddnpaaDoor.Pure
open Go.RowKit Go.Proofs.YtfncbcbhhddnpaaDoor.K
set_option linter.unusedVariables false
set_option linter.unusedSimpArgs false
theorem MoneyTurns (a b : Int) (wa : (Lit.int .i64 a).wf = true) (wb : (Lit.int .i64 b).wf = true) : bazaarlaw11_MoneyTurns.f a b = some true := by
  simp [bazaarlaw11_MoneyTurns.f, shown_true, money_Add.f, money_Mul.f, add_comm' b a, mul_comm' b a]
end Go.Proofs.YtfncbcbhhddnpaaDoor.Pure
