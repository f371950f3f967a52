/- How the structs lie in memory, printed by gen.py. -/
import Derived.Test.YtgachgjcnmeicaaXR
import Derived.Test.YtgachgjcnmeicaaXMut
namespace Go.Proofs.YtgachgjcnmeicaaX
open Go Go.RowKit
set_option linter.unusedVariables false

end Go.Proofs.YtgachgjcnmeicaaX
