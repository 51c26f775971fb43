/- More operations: strings by order; bytes of what stands there. -/
import Derived.Test.YtliilbaniinpbaaGreatOwnN
import Derived.Lib.SlBytesConst
namespace Go.Proofs.YtliilbaniinpbaaGreat
open Go Fr
set_option linter.unusedVariables false
theorem subq {cl vs : List Value} {cs : Array Value} {o k : Nat} (hc : ∀ (j : Nat) (u : Value), cl[j]? = some u → cs[o + j]? = some u) (h : (cl.drop k).take vs.length = vs) (j : Nat) (u : Value) (hj : vs[j]? = some u) : cs[o + k + j]? = some u := by
  rw [Nat.add_assoc]
  refine hc _ _ ?_
  rw [← List.getElem?_drop]
  have hl := (List.getElem?_eq_some_iff.1 hj).1
  rw [← h, List.getElem?_take_of_lt hl] at hj
  exact hj
section
variable {P : Program} {ops : Array Oper} {Q : Exit → Act → World → Prop} {C : World → Prop} {rest : List Oper} {l : Fm} {w : World} {d : Nat} {ty : TypeId} {ps : String} {af : Array Edge}
variable {W : World} {g : Frag} {L0 L : Own} {α : Type} {enc : α → List Value} {zs : List α} {v : Value}
end
end Go.Proofs.YtliilbaniinpbaaGreat
