/- The plain law GoodsTwice. -/
import Derived.Test.YtgnjodocggihoaaDoorPGBack
namespace Go.Proofs.YtgnjodocggihoaaDoor.Pure
open Go.RowKit Go.Proofs.YtgnjodocggihoaaDoor.G
set_option linter.unusedVariables false

theorem GoodsTwice (l : List S42) (it n m : Int) (_ : (Lit.int .u16 it).wf = true) (_ : (Lit.int .i64 n).wf = true) (_ : (Lit.int .i64 m).wf = true) : bazaarlaw12_GoodsTwice.f 1200 l it n m = some true := twice_f 1200 (by decide) l it n m

end Go.Proofs.YtgnjodocggihoaaDoor.Pure
