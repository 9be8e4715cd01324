/- The plain law MailBack. -/
import Derived.Test.YtoclldkgkmhgaaaDoorPMBack
import Derived.Test.YtoclldkgkmhgaaaDoorSOpenW
namespace Go.Proofs.YtoclldkgkmhgaaaDoor.Pure
open Go.RowKit Go.Proofs.YtoclldkgkmhgaaaDoor.K
set_option linter.unusedVariables false

theorem MailBack (a0 a1 : Int) (l : List S25) (m0 m1 m2 m3 : Int) (s : ByteArray) (_ : (Lit.int .i64 a0).wf = true) (_ : (Lit.int .i64 a1).wf = true) (w2 : (Lit.int .u16 m2).wf = true) (ws : s.size ≤ 140737488351232) : bazaarlaw14_MailBack.f 1201 a0 a1 l m0 m1 m2 m3 s = some true := mailback_f a0 a1 l m0 m1 m2 m3 (wf_u16 w2) s ws

end Go.Proofs.YtoclldkgkmhgaaaDoor.Pure
