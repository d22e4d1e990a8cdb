/- Equality of this seat's structs. Written by a program. -/
import Derived.Test.YtpgpbhbpamgboaaDoorHwEq
import Derived.Test.YtpgpbhbpamgboaaDoorHwMark
import Derived.Test.YtpgpbhbpamgboaaDoorHwAppZ
import Derived.Test.YtpgpbhbpamgboaaDoorProg
set_option linter.unusedSimpArgs false
namespace Go.Proofs.YtpgpbhbpamgboaaDoor
open Go Go.HW

end Go.Proofs.YtpgpbhbpamgboaaDoor
