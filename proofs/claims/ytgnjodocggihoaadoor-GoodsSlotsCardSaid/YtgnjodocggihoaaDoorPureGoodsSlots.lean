/- The plain law GoodsSlots. -/
import Derived.Test.YtgnjodocggihoaaDoorPGSlots
namespace Go.Proofs.YtgnjodocggihoaaDoor.Pure
open Go.RowKit Go.Proofs.YtgnjodocggihoaaDoor.G
set_option linter.unusedVariables false

theorem GoodsSlots (n a : Int) (_ : (Lit.int .i64 n).wf = true) (h : (Lit.int .u16 a).wf = true) : bazaarlaw12_GoodsSlots.f 1200 n a = some true := slots_f 1200 (by decide) n a (by have := h; simp [Lit.wf, IntKind.min, IntKind.max, IntKind.signed, IntKind.bits] at this; omega)

end Go.Proofs.YtgnjodocggihoaaDoor.Pure
