/- The plain law MailSends. -/
import Derived.Test.YtoclldkgkmhgaaaDoorPMSends
namespace Go.Proofs.YtoclldkgkmhgaaaDoor.Pure
open Go.RowKit Go.Proofs.YtoclldkgkmhgaaaDoor.K
set_option linter.unusedVariables false

theorem MailSends (a0 a1 : Int) (l : List S25) (m0 m1 m2 m3 : Int) (_ : (Lit.int .i64 a0).wf = true) (_ : (Lit.int .i64 a1).wf = true) : bazaarlaw14_MailSends.f 2200 a0 a1 l m0 m1 m2 m3 = some true := sends_f 2200 (by decide) a0 a1 l m0 m1 m2 m3

end Go.Proofs.YtoclldkgkmhgaaaDoor.Pure
