/- Arrays compared, and maps whose keys are structs or arrays. Plain lemmas over any program. -/
import Derived.Test.YtckobcclloialaaGreatLibU
import Derived.ChangeKeysEq
namespace Go.VK
open Go.RowKit
end Go.VK
