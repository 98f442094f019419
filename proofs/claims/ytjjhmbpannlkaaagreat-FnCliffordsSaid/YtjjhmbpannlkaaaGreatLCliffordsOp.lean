/- A row's reading, opened: by program. -/
import Derived.Test.YtjjhmbpannlkaaaGreatLCliffordsFa
import Derived.Test.YtjjhmbpannlkaaaGreatLibH
set_option linter.unusedVariables false
set_option maxRecDepth 100000
namespace Go.VK
open Go.RowKit
open Go.Proofs

end Go.VK
