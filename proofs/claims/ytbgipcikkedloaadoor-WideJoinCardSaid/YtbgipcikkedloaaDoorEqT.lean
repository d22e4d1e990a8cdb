/- Equality of this seat's structs. Written by a program. -/
import Derived.Test.YtbgipcikkedloaaDoorHwEq
import Derived.Test.YtbgipcikkedloaaDoorHwMark
import Derived.Test.YtbgipcikkedloaaDoorHwAppZ
import Derived.Test.YtbgipcikkedloaaDoorProg
set_option linter.unusedSimpArgs false
namespace Go.Proofs.YtbgipcikkedloaaDoor
open Go Go.HW

end Go.Proofs.YtbgipcikkedloaaDoor
