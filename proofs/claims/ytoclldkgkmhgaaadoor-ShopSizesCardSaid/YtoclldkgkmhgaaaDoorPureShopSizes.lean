/- The plain law ShopSizes. -/
import Derived.Test.YtoclldkgkmhgaaaDoorPSSizes
namespace Go.Proofs.YtoclldkgkmhgaaaDoor.Pure
open Go.RowKit Go.Proofs.YtoclldkgkmhgaaaDoor.K
set_option linter.unusedVariables false

theorem ShopSizes (x0 x1 x2 x3 : Int) : bazaarlaw15_ShopSizes.f 1200 x0 x1 x2 x3 = some true := shopsizes_f x0 x1 x2 x3

end Go.Proofs.YtoclldkgkmhgaaaDoor.Pure
