/- The plain law GoodsOwn. -/
import Derived.Test.YtgnjodocggihoaaDoorPGBack
namespace Go.Proofs.YtgnjodocggihoaaDoor.Pure
open Go.RowKit Go.Proofs.YtgnjodocggihoaaDoor.G
set_option linter.unusedVariables false

theorem GoodsOwn (l : List S42) (it n : Int) (_ : (Lit.int .u16 it).wf = true) (_ : (Lit.int .i64 n).wf = true) : bazaarlaw12_GoodsOwn.f 1200 l it n = some true := own_f 1200 (by decide) l it n

end Go.Proofs.YtgnjodocggihoaaDoor.Pure
