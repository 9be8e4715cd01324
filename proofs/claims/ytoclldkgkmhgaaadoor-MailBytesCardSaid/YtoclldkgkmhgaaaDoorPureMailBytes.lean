/- The plain law MailBytes. -/
import Derived.Test.YtoclldkgkmhgaaaDoorPMBytes
namespace Go.Proofs.YtoclldkgkmhgaaaDoor.Pure
open Go.RowKit Go.Proofs.YtoclldkgkmhgaaaDoor.K
set_option linter.unusedVariables false

theorem MailBytes (m0 m1 m2 m3 : Int) (s : ByteArray) (ws : s.size ≤ 140737488351232) : bazaarlaw14_MailBytes.f 1200 m0 m1 m2 m3 s = some true := mailbytes_f m0 m1 m2 m3 s ws

end Go.Proofs.YtoclldkgkmhgaaaDoor.Pure
