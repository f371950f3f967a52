/- How the structs lie in memory, printed by gen.py. -/
import Derived.Test.YtffjpapmmiennaaXR
import Derived.Test.YtffjpapmmiennaaXLay
namespace Go.Proofs.YtffjpapmmiennaaX
open Go Go.RowKit
set_option linter.unusedVariables false
set_option linter.unusedSimpArgs false

end Go.Proofs.YtffjpapmmiennaaX
