/- Where what may be read comes from; slices of slices. Plain lemmas over any program. -/
import Derived.Test.YtkmncijipedjaaaGreatLibN
namespace Go.VK
open Go.RowKit

abbrev Hd := Option Addr × Nat
end Go.VK
