/- How the structs lie in memory, printed by gen.py. -/
import Derived.Test.YtpphepkapccjeaaXR
import Derived.Test.YtpphepkapccjeaaXFld
namespace Go.Proofs.YtpphepkapccjeaaX
open Go Go.RowKit
set_option linter.unusedVariables false
set_option linter.unusedSimpArgs false

end Go.Proofs.YtpphepkapccjeaaX
