/- The plain law GoodsKeep. -/
import Derived.Test.YtgnjodocggihoaaDoorPGBack
namespace Go.Proofs.YtgnjodocggihoaaDoor.Pure
open Go.RowKit Go.Proofs.YtgnjodocggihoaaDoor.G
set_option linter.unusedVariables false

theorem GoodsKeep (a b : List S42) (it n it2 : Int) (_ : (Lit.int .u16 it).wf = true) (_ : (Lit.int .i64 n).wf = true) (_ : (Lit.int .u16 it2).wf = true) : bazaarlaw12_GoodsKeep.f 1200 a b it n it2 = some true := keep_f 1200 (by decide) a b it n it2

end Go.Proofs.YtgnjodocggihoaaDoor.Pure
