/- The chapter's example, evaluated. -/
import Derived.Test.YtcehmgmhlmbhnaaDoorPr11
import Derived.Test.YtcehmgmhlmbhnaaDoorOpen
namespace Go.Proofs.YtcehmgmhlmbhnaaDoor.Pure
open Go.RowKit Go.Proofs.YtcehmgmhlmbhnaaDoor Go.Proofs.YtcehmgmhlmbhnaaDoor.Pr
set_option maxRecDepth 100000 in
theorem awake : insolvencylaw25_awake.f 40 = some true := by decide +kernel
end Go.Proofs.YtcehmgmhlmbhnaaDoor.Pure
