/- MoneyBounds's plain law. -/
import Derived.Test.YtfncbcbhhddnpaaDoorKx10
import Derived.Test.YtfncbcbhhddnpaaDoorPLib
namespace Go.Proofs.YtfncbcbhhddnpaaDoor.Pure
open Go.RowKit Go.Proofs.YtfncbcbhhddnpaaDoor.K
set_option linter.unusedVariables false
set_option linter.unusedSimpArgs false
theorem MoneyBounds (a b n : Int) (wa : (Lit.int .i64 a).wf = true) (wb : (Lit.int .i64 b).wf = true) (wn : (Lit.int .i64 n).wf = true) : bazaarlaw11_MoneyBounds.f a b n = some true := by
  simp [bazaarlaw11_MoneyBounds.f, shown_true, money_Add.f, money_Sub.f, money_Mul.f, money_Move.f, right_amt, amt_add, amt_sub, amt_mul, amt_move]
end Go.Proofs.YtfncbcbhhddnpaaDoor.Pure
