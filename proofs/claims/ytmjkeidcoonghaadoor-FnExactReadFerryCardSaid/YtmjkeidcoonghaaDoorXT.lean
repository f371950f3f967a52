/- How the structs lie in memory, printed by gen.py. -/
import Derived.Test.YtmjkeidcoonghaaDoorXR
import Derived.Test.YtmjkeidcoonghaaDoorXFld
namespace Go.Proofs.YtmjkeidcoonghaaDoorX
open Go Go.RowKit
set_option linter.unusedVariables false
set_option linter.unusedSimpArgs false

end Go.Proofs.YtmjkeidcoonghaaDoorX
