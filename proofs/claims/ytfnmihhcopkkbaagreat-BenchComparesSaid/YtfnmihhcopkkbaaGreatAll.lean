/- All of them. Printed by lift.py. -/
import Derived.Test.YtfnmihhcopkkbaaGreatProg
import Derived.Test.YtfnmihhcopkkbaaGreatIn
import Derived.Test.YtfnmihhcopkkbaaGreatLo
import Derived.Test.YtfnmihhcopkkbaaGreatP13
import Derived.KernelRfl
namespace Go.Proofs.YtfnmihhcopkkbaaGreat
open Go Go.RowKit Fr
set_option linter.unusedVariables false
set_option linter.unusedSimpArgs false
set_option maxRecDepth 20000
end Go.Proofs.YtfnmihhcopkkbaaGreat
