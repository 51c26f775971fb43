/- 'append(l, make([]T, n)...)': noughts appended. -/
import Derived.Test.YtgakgpbmcbegbaaGreatDoorOwnN
namespace Go.Proofs.YtgakgpbmcbegbaaGreatDoor.Fr
open Go.RowKit
set_option linter.unusedVariables false
set_option linter.unusedSimpArgs false
section
variable {P : Program} {ops : Array Oper} {Q : Exit → Act → World → Prop} {rest : List Oper} {l : Fm} {w : World} {d : Nat} {ty : TypeId} {ps : String} {af : Array Edge}
variable {W : World} {g : Frag} {L0 L : Own}
end
end Go.Proofs.YtgakgpbmcbegbaaGreatDoor.Fr
