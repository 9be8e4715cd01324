/- The plain law ShopDoes. -/
import Derived.Test.YtoclldkgkmhgaaaDoorPSDoes
namespace Go.Proofs.YtoclldkgkmhgaaaDoor.Pure
open Go.RowKit Go.Proofs.YtoclldkgkmhgaaaDoor.K
set_option linter.unusedVariables false

theorem ShopDoes (a0 a1 b0 b1 : Int) (l : List S25) (x0 x1 x2 x3 : Int) (_ : (Lit.int .i64 a0).wf = true) (_ : (Lit.int .i64 a1).wf = true) (_ : (Lit.int .i64 b0).wf = true) (_ : (Lit.int .i64 b1).wf = true) : bazaarlaw15_ShopDoes.f 2200 a0 a1 b0 b1 l x0 x1 x2 x3 = some true := does_f 2200 (by decide) a0 a1 b0 b1 l x0 x1 x2 x3

end Go.Proofs.YtoclldkgkmhgaaaDoor.Pure
