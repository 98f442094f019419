/- Views of what may only be read, and strings that are cut. Plain lemmas over any program. -/
import Derived.Test.YtgacclcoghlhmaaLibL
import Derived.Laws.Strings2
import Derived.Laws.Slices
namespace Go.VK
open Go.RowKit

end Go.VK
