/- The plain law MailOwn. -/
import Derived.Test.YtoclldkgkmhgaaaDoorPMail
namespace Go.Proofs.YtoclldkgkmhgaaaDoor.Pure
open Go.RowKit Go.Proofs.YtoclldkgkmhgaaaDoor.K
set_option linter.unusedVariables false

theorem MailOwn (a0 a1 : Int) (l : List S25) (m0 m1 m2 m3 : Int) (_ : (Lit.int .i64 a0).wf = true) (_ : (Lit.int .i64 a1).wf = true) : bazaarlaw14_MailOwn.f 1200 a0 a1 l m0 m1 m2 m3 = some true := mown_f 1200 (by decide) a0 a1 l m0 m1 m2 m3

end Go.Proofs.YtoclldkgkmhgaaaDoor.Pure
