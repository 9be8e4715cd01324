/- The plain law ShopOwn. -/
import Derived.Test.YtoclldkgkmhgaaaDoorPShop
namespace Go.Proofs.YtoclldkgkmhgaaaDoor.Pure
open Go.RowKit Go.Proofs.YtoclldkgkmhgaaaDoor.K
set_option linter.unusedVariables false

theorem ShopOwn (l : List S25) (x0 x1 x2 x3 : Int) : bazaarlaw15_ShopOwn.f 1200 l x0 x1 x2 x3 = some true := sown_f 1200 (by decide) l x0 x1 x2 x3

end Go.Proofs.YtoclldkgkmhgaaaDoor.Pure
