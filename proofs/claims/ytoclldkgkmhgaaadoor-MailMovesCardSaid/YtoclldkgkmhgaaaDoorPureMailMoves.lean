/- The plain law MailMoves. -/
import Derived.Test.YtoclldkgkmhgaaaDoorPMail
namespace Go.Proofs.YtoclldkgkmhgaaaDoor.Pure
open Go.RowKit Go.Proofs.YtoclldkgkmhgaaaDoor.K
set_option linter.unusedVariables false

theorem MailMoves (a0 a1 : Int) (l : List S25) (m0 m1 m2 m3 it : Int) (_ : (Lit.int .i64 a0).wf = true) (_ : (Lit.int .i64 a1).wf = true) (_ : (Lit.int .u16 it).wf = true) : bazaarlaw14_MailMoves.f 1200 a0 a1 l m0 m1 m2 m3 it = some true := moves_f 1200 (by decide) a0 a1 l m0 m1 m2 m3 it

end Go.Proofs.YtoclldkgkmhgaaaDoor.Pure
