/- The plain law ShopBack. -/
import Derived.Test.YtoclldkgkmhgaaaDoorPSBack
import Derived.Test.YtoclldkgkmhgaaaDoorSOpenW
namespace Go.Proofs.YtoclldkgkmhgaaaDoor.Pure
open Go.RowKit Go.Proofs.YtoclldkgkmhgaaaDoor.K
set_option linter.unusedVariables false

theorem ShopBack (l : List S25) (x0 x1 x2 x3 : Int) (s : ByteArray) (w1 : (Lit.int .u16 x1).wf = true) (ws : s.size ≤ 140737488351232) : bazaarlaw15_ShopBack.f 1200 l x0 x1 x2 x3 s = some true := shopback_f l x0 x1 x2 x3 (wf_u16 w1) s ws

end Go.Proofs.YtoclldkgkmhgaaaDoor.Pure
