/- The plain law GoodsDo. -/
import Derived.Test.YtgnjodocggihoaaDoorPGDo
namespace Go.Proofs.YtgnjodocggihoaaDoor.Pure
open Go.RowKit Go.Proofs.YtgnjodocggihoaaDoor.G
set_option linter.unusedVariables false

theorem GoodsDo (a b : List S42) (it n : Int) (_ : (Lit.int .u16 it).wf = true) (_ : (Lit.int .i64 n).wf = true) : bazaarlaw12_GoodsDo.f 2200 a b it n = some true := gdo_f 2200 (by decide) a b it n

end Go.Proofs.YtgnjodocggihoaaDoor.Pure
