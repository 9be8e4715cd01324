/- The plain law AccountsDo. -/
import Derived.Test.YtgnjodocggihoaaDoorPADo
namespace Go.Proofs.YtgnjodocggihoaaDoor.Pure
open Go.RowKit Go.Proofs.YtgnjodocggihoaaDoor.K
set_option linter.unusedVariables false

theorem AccountsDo (a0 a1 b0 b1 n : Int) (_ : (Lit.int .i64 a0).wf = true) (_ : (Lit.int .i64 a1).wf = true) (_ : (Lit.int .i64 b0).wf = true) (_ : (Lit.int .i64 b1).wf = true) (_ : (Lit.int .i64 n).wf = true) : bazaarlaw13_AccountsDo.f 2 a0 a1 b0 b1 n = some true := do_f 0 a0 a1 b0 b1 n

end Go.Proofs.YtgnjodocggihoaaDoor.Pure
