/- All of them. Printed by lift.py. -/
import Derived.Test.YthbpicnbkdbbmaaProg
import Derived.Test.YthbpicnbkdbbmaaIn
import Derived.Test.YthbpicnbkdbbmaaLo
import Derived.Test.YthbpicnbkdbbmaaP10
import Derived.KernelRfl
namespace Go.Proofs.Ythbpicnbkdbbmaa
open Go Go.RowKit Fr
set_option linter.unusedVariables false
set_option linter.unusedSimpArgs false
set_option maxRecDepth 20000
end Go.Proofs.Ythbpicnbkdbbmaa
