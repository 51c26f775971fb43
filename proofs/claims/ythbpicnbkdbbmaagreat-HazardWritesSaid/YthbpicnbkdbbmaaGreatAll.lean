/- All of them. Printed by lift.py. -/
import Derived.Test.YthbpicnbkdbbmaaGreatProg
import Derived.Test.YthbpicnbkdbbmaaGreatIn
import Derived.Test.YthbpicnbkdbbmaaGreatLo
import Derived.Test.YthbpicnbkdbbmaaGreatP11
import Derived.KernelRfl
namespace Go.Proofs.YthbpicnbkdbbmaaGreat
open Go Go.RowKit Fr
set_option linter.unusedVariables false
set_option linter.unusedSimpArgs false
set_option maxRecDepth 20000
end Go.Proofs.YthbpicnbkdbbmaaGreat
