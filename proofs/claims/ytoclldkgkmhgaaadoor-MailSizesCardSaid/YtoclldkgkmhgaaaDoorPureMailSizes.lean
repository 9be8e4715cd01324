/- The plain law MailSizes. -/
import Derived.Test.YtoclldkgkmhgaaaDoorPMSizes
namespace Go.Proofs.YtoclldkgkmhgaaaDoor.Pure
open Go.RowKit Go.Proofs.YtoclldkgkmhgaaaDoor.K
set_option linter.unusedVariables false

theorem MailSizes (m0 m1 m2 m3 : Int) : bazaarlaw14_MailSizes.f 1200 m0 m1 m2 m3 = some true := sizes_f m0 m1 m2 m3

end Go.Proofs.YtoclldkgkmhgaaaDoor.Pure
