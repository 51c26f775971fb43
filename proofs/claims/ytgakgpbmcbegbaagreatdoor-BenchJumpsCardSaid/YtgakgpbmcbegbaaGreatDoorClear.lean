/- clear: cells of one's own, from a place on, are nought. -/
import Derived.Test.YtgakgpbmcbegbaaGreatDoorCopy
import Derived.Lib.SliceRun
namespace Go.Proofs.YtgakgpbmcbegbaaGreatDoor
open Go Fr
set_option linter.unusedVariables false
section
variable {P : Program} {ops : Array Oper} {Q : Exit → Act → World → Prop} {rest : List Oper} {l : Fm} {w : World} {ty : TypeId} {ps : String} {af : Array Edge}
variable {W : World} {g : Frag} {L0 : Own} {α : Type} {enc : α → List Value} {zs zs' : List α} {v : Value}
end
end Go.Proofs.YtgakgpbmcbegbaaGreatDoor
