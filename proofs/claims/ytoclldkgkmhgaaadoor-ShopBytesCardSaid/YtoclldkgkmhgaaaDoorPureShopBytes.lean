/- The plain law ShopBytes. -/
import Derived.Test.YtoclldkgkmhgaaaDoorPSBytes
namespace Go.Proofs.YtoclldkgkmhgaaaDoor.Pure
open Go.RowKit Go.Proofs.YtoclldkgkmhgaaaDoor.K
set_option linter.unusedVariables false

theorem ShopBytes (x0 x1 x2 x3 : Int) (s : ByteArray) (ws : s.size ≤ 140737488351232) : bazaarlaw15_ShopBytes.f 1200 x0 x1 x2 x3 s = some true := shopbytes_f x0 x1 x2 x3 s ws

end Go.Proofs.YtoclldkgkmhgaaaDoor.Pure
