/- How the structs lie in memory, printed by gen.py. -/
import Derived.Test.YtffjpapmmiennaaDoorXR
import Derived.Test.YtffjpapmmiennaaDoorXFld
namespace Go.Proofs.YtffjpapmmiennaaDoorX
open Go Go.RowKit
set_option linter.unusedVariables false
set_option linter.unusedSimpArgs false

end Go.Proofs.YtffjpapmmiennaaDoorX
