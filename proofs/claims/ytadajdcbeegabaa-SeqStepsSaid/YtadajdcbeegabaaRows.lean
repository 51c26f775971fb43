/-
  No cell of these rows narrows 'for every input' (looked for: loops, veiled, ifaces, maps, wideKeys, modest, calm, conditions, laid).
  DERIVED. THE GIVEN ROWS OF THIS SEAT. 9 by the template 'for every input the law returns true; each argument reads behind the call as it read before'; 0 by the template 'total and deterministic' (their statements: YtadajdcbeegabaaTotals.lean).
  GIVEN WITH THE SEED: the statements are not yours to turn. If you find one false, say at which input.
  Laid BY PROGRAM, IN A SANDBOX (cutbox-rows.mjs): the forced cells as the released guide's own fill.sh prints them over the translation db8c5c603e4e4908… (all of the seat's roots in one cut). By AI agents, Wed Nov 11 2026. No macro, syntax, notation, axiom, sorry.
-/
import Derived.Test.YtadajdcbeegabaaChecked
import GoSem.Claim
import GoSem.ClaimJoined
import GoSem.ClaimMapViews
import Derived.JoinedTies
import Derived.KernelRfl
namespace Go.Proofs.Ytadajdcbeegabaa
/- THE CELL 'sum', in the pinned program and in every row, IS THE sha256 OF THE DUMP (.gsa) THAT YtadajdcbeegabaaProg.lean LOADS. Nothing in Lean hashes anything: it is a label: what it is worth is what the hold of that sum in a sandbox is worth. -/
noncomputable def Try.pinned : Pinned := { name := "ytadajdcbeegabaa", sum := "db8c5c603e4e4908b3ff24639fd5d130016de88c6853a25f506bb4d6369861f6", checked := Try.checked }
namespace Rows
def none {H : Type} : Left H := { results := [], args := [] }

/-- 'sledgelaw5.SeqGoes': WHATEVER THE INPUT: true; the input reads as it did. -/
def seqGoesSpec : ChangeSpec := { name := "seqGoes", fn := fun _ => fun
  | [d] => { results := [.lit (.bool true)], args := [d] }
  | _ => none }
def seqGoesRow : OpenClaim := { program := "ytadajdcbeegabaa", sum := "db8c5c603e4e4908b3ff24639fd5d130016de88c6853a25f506bb4d6369861f6", func := "sledge/sledgelaw5.SeqGoes", spec := "seqGoes", unfollowed := true, recurses := true, apart := false }
def SeqGoesSaid : Prop := seqGoesRow.holds Try.pinned (OpenSpec.ofChange seqGoesSpec)

/-- ITS FALSE NEIGHBOUR: 'it returns false'. Refute it at one input. -/
def seqGoesWrong : ChangeSpec := { name := "seqGoes", fn := fun _ => fun
  | [d] => { results := [.lit (.bool false)], args := [d] }
  | _ => none }
def SeqGoesWrongFalsely : Prop := seqGoesRow.holds Try.pinned (OpenSpec.ofChange seqGoesWrong)

/-- 'sledgelaw5.SeqAlu': WHATEVER THE INPUT: true; the input reads as it did. -/
def seqAluSpec : ChangeSpec := { name := "seqAlu", fn := fun _ => fun
  | [d] => { results := [.lit (.bool true)], args := [d] }
  | _ => none }
def seqAluRow : OpenClaim := { program := "ytadajdcbeegabaa", sum := "db8c5c603e4e4908b3ff24639fd5d130016de88c6853a25f506bb4d6369861f6", func := "sledge/sledgelaw5.SeqAlu", spec := "seqAlu", unfollowed := true, recurses := true, apart := false }
def SeqAluSaid : Prop := seqAluRow.holds Try.pinned (OpenSpec.ofChange seqAluSpec)

/-- ITS FALSE NEIGHBOUR: 'it returns false'. Refute it at one input. -/
def seqAluWrong : ChangeSpec := { name := "seqAlu", fn := fun _ => fun
  | [d] => { results := [.lit (.bool false)], args := [d] }
  | _ => none }
def SeqAluWrongFalsely : Prop := seqAluRow.holds Try.pinned (OpenSpec.ofChange seqAluWrong)

/-- 'sledgelaw5.SeqPairs': WHATEVER THE INPUT: true; the input reads as it did. -/
def seqPairsSpec : ChangeSpec := { name := "seqPairs", fn := fun _ => fun
  | [d] => { results := [.lit (.bool true)], args := [d] }
  | _ => none }
def seqPairsRow : OpenClaim := { program := "ytadajdcbeegabaa", sum := "db8c5c603e4e4908b3ff24639fd5d130016de88c6853a25f506bb4d6369861f6", func := "sledge/sledgelaw5.SeqPairs", spec := "seqPairs", unfollowed := true, recurses := true, apart := false }
def SeqPairsSaid : Prop := seqPairsRow.holds Try.pinned (OpenSpec.ofChange seqPairsSpec)

/-- ITS FALSE NEIGHBOUR: 'it returns false'. Refute it at one input. -/
def seqPairsWrong : ChangeSpec := { name := "seqPairs", fn := fun _ => fun
  | [d] => { results := [.lit (.bool false)], args := [d] }
  | _ => none }
def SeqPairsWrongFalsely : Prop := seqPairsRow.holds Try.pinned (OpenSpec.ofChange seqPairsWrong)

/-- 'sledgelaw5.SeqQuotients': WHATEVER THE INPUT: true; the input reads as it did. -/
def seqQuotientsSpec : ChangeSpec := { name := "seqQuotients", fn := fun _ => fun
  | [d] => { results := [.lit (.bool true)], args := [d] }
  | _ => none }
def seqQuotientsRow : OpenClaim := { program := "ytadajdcbeegabaa", sum := "db8c5c603e4e4908b3ff24639fd5d130016de88c6853a25f506bb4d6369861f6", func := "sledge/sledgelaw5.SeqQuotients", spec := "seqQuotients", unfollowed := true, recurses := true, apart := false }
def SeqQuotientsSaid : Prop := seqQuotientsRow.holds Try.pinned (OpenSpec.ofChange seqQuotientsSpec)

/-- ITS FALSE NEIGHBOUR: 'it returns false'. Refute it at one input. -/
def seqQuotientsWrong : ChangeSpec := { name := "seqQuotients", fn := fun _ => fun
  | [d] => { results := [.lit (.bool false)], args := [d] }
  | _ => none }
def SeqQuotientsWrongFalsely : Prop := seqQuotientsRow.holds Try.pinned (OpenSpec.ofChange seqQuotientsWrong)

/-- 'sledgelaw5.SeqMemory': WHATEVER THE INPUT: true; the input reads as it did. -/
def seqMemorySpec : ChangeSpec := { name := "seqMemory", fn := fun _ => fun
  | [d] => { results := [.lit (.bool true)], args := [d] }
  | _ => none }
def seqMemoryRow : OpenClaim := { program := "ytadajdcbeegabaa", sum := "db8c5c603e4e4908b3ff24639fd5d130016de88c6853a25f506bb4d6369861f6", func := "sledge/sledgelaw5.SeqMemory", spec := "seqMemory", unfollowed := true, recurses := true, apart := false }
def SeqMemorySaid : Prop := seqMemoryRow.holds Try.pinned (OpenSpec.ofChange seqMemorySpec)

/-- ITS FALSE NEIGHBOUR: 'it returns false'. Refute it at one input. -/
def seqMemoryWrong : ChangeSpec := { name := "seqMemory", fn := fun _ => fun
  | [d] => { results := [.lit (.bool false)], args := [d] }
  | _ => none }
def SeqMemoryWrongFalsely : Prop := seqMemoryRow.holds Try.pinned (OpenSpec.ofChange seqMemoryWrong)

/-- 'sledgelaw5.SeqJumps': WHATEVER THE INPUT: true; the input reads as it did. -/
def seqJumpsSpec : ChangeSpec := { name := "seqJumps", fn := fun _ => fun
  | [d] => { results := [.lit (.bool true)], args := [d] }
  | _ => none }
def seqJumpsRow : OpenClaim := { program := "ytadajdcbeegabaa", sum := "db8c5c603e4e4908b3ff24639fd5d130016de88c6853a25f506bb4d6369861f6", func := "sledge/sledgelaw5.SeqJumps", spec := "seqJumps", unfollowed := true, recurses := true, apart := false }
def SeqJumpsSaid : Prop := seqJumpsRow.holds Try.pinned (OpenSpec.ofChange seqJumpsSpec)

/-- ITS FALSE NEIGHBOUR: 'it returns false'. Refute it at one input. -/
def seqJumpsWrong : ChangeSpec := { name := "seqJumps", fn := fun _ => fun
  | [d] => { results := [.lit (.bool false)], args := [d] }
  | _ => none }
def SeqJumpsWrongFalsely : Prop := seqJumpsRow.holds Try.pinned (OpenSpec.ofChange seqJumpsWrong)

/-- 'sledgelaw5.SeqCalls': WHATEVER THE INPUT: true; the input reads as it did. -/
def seqCallsSpec : ChangeSpec := { name := "seqCalls", fn := fun _ => fun
  | [d] => { results := [.lit (.bool true)], args := [d] }
  | _ => none }
def seqCallsRow : OpenClaim := { program := "ytadajdcbeegabaa", sum := "db8c5c603e4e4908b3ff24639fd5d130016de88c6853a25f506bb4d6369861f6", func := "sledge/sledgelaw5.SeqCalls", spec := "seqCalls", unfollowed := true, recurses := true, apart := false }
def SeqCallsSaid : Prop := seqCallsRow.holds Try.pinned (OpenSpec.ofChange seqCallsSpec)

/-- ITS FALSE NEIGHBOUR: 'it returns false'. Refute it at one input. -/
def seqCallsWrong : ChangeSpec := { name := "seqCalls", fn := fun _ => fun
  | [d] => { results := [.lit (.bool false)], args := [d] }
  | _ => none }
def SeqCallsWrongFalsely : Prop := seqCallsRow.holds Try.pinned (OpenSpec.ofChange seqCallsWrong)

/-- 'sledgelaw5.SeqPorts': WHATEVER THE INPUT: true; the input reads as it did. -/
def seqPortsSpec : ChangeSpec := { name := "seqPorts", fn := fun _ => fun
  | [d] => { results := [.lit (.bool true)], args := [d] }
  | _ => none }
def seqPortsRow : OpenClaim := { program := "ytadajdcbeegabaa", sum := "db8c5c603e4e4908b3ff24639fd5d130016de88c6853a25f506bb4d6369861f6", func := "sledge/sledgelaw5.SeqPorts", spec := "seqPorts", unfollowed := true, recurses := true, apart := false }
def SeqPortsSaid : Prop := seqPortsRow.holds Try.pinned (OpenSpec.ofChange seqPortsSpec)

/-- ITS FALSE NEIGHBOUR: 'it returns false'. Refute it at one input. -/
def seqPortsWrong : ChangeSpec := { name := "seqPorts", fn := fun _ => fun
  | [d] => { results := [.lit (.bool false)], args := [d] }
  | _ => none }
def SeqPortsWrongFalsely : Prop := seqPortsRow.holds Try.pinned (OpenSpec.ofChange seqPortsWrong)

/-- 'sledgelaw5.SeqSteps': WHATEVER THE INPUT: true; the input reads as it did. -/
def seqStepsSpec : ChangeSpec := { name := "seqSteps", fn := fun _ => fun
  | [d] => { results := [.lit (.bool true)], args := [d] }
  | _ => none }
def seqStepsRow : OpenClaim := { program := "ytadajdcbeegabaa", sum := "db8c5c603e4e4908b3ff24639fd5d130016de88c6853a25f506bb4d6369861f6", func := "sledge/sledgelaw5.SeqSteps", spec := "seqSteps", unfollowed := true, recurses := true, apart := false }
def SeqStepsSaid : Prop := seqStepsRow.holds Try.pinned (OpenSpec.ofChange seqStepsSpec)

/-- ITS FALSE NEIGHBOUR: 'it returns false'. Refute it at one input. -/
def seqStepsWrong : ChangeSpec := { name := "seqSteps", fn := fun _ => fun
  | [d] => { results := [.lit (.bool false)], args := [d] }
  | _ => none }
def SeqStepsWrongFalsely : Prop := seqStepsRow.holds Try.pinned (OpenSpec.ofChange seqStepsWrong)

/- THE SECOND FORM. 'bulk': how many values and letters a reading holds, each counted each time it is reached (what is shared counts as often as it is met; a slice's spare places count too). A statement '..UptoSaid' is the law's where the arguments, and the package variables that the reading takes, are together of bulk at most 1048576: NARROWER than '..Said'. Prove '..Said' where nothing that the law and all that it calls make is longer than what came in: it says more and counts as full. Else prove '..UptoSaid'. A law counts once. -/
mutual
def uptoBulk {H : Type} : DataW H → Nat
  | .lit (.string bytes) => bytes.length + 1
  | .lit _ => 1
  | .nil => 1
  | .ptr d => uptoBulk d + 1
  | .slice elems spare => uptoBulkAll elems + uptoBulkAll spare + 1
  | .agg parts => uptoBulkAll parts + 1
  | .iface _ d => uptoBulk d + 1
  | .map entries => uptoBulkEntries entries + 1
  | .held _ => 1
def uptoBulkAll {H : Type} : List (DataW H) → Nat
  | [] => 0
  | d :: r => uptoBulk d + uptoBulkAll r
def uptoBulkEntries {H : Type} : List (Lit × DataW H) → Nat
  | [] => 0
  | x :: r => uptoBulkEntry x + uptoBulkEntries r
def uptoBulkEntry {H : Type} : Lit × DataW H → Nat
  | (.string bytes, d) => bytes.length + uptoBulk d + 1
  | (_, d) => uptoBulk d + 1
 end
def uptoSmall : (H : Type) → List (DataW H) → Bool := fun _ ds => decide (uptoBulkAll ds ≤ 1048576)
def OpenSpec.upto (s : _root_.Go.ChangeSpec) : _root_.Go.OpenSpec := { _root_.Go.OpenSpec.ofChange s with cond := some uptoSmall }

/-- 'sledgelaw5.SeqGoes', WHERE WHAT IT READS IS OF BULK AT MOST 1048576: true; the input reads as it did. -/
def seqGoesUptoRow : OpenClaim := { program := "ytadajdcbeegabaa", sum := "db8c5c603e4e4908b3ff24639fd5d130016de88c6853a25f506bb4d6369861f6", func := "sledge/sledgelaw5.SeqGoes", spec := "seqGoes", unfollowed := true, recurses := true, apart := false, narrowed := true }
def SeqGoesUptoSaid : Prop := seqGoesUptoRow.holds Try.pinned (OpenSpec.upto seqGoesSpec)

/-- 'sledgelaw5.SeqAlu', WHERE WHAT IT READS IS OF BULK AT MOST 1048576: true; the input reads as it did. -/
def seqAluUptoRow : OpenClaim := { program := "ytadajdcbeegabaa", sum := "db8c5c603e4e4908b3ff24639fd5d130016de88c6853a25f506bb4d6369861f6", func := "sledge/sledgelaw5.SeqAlu", spec := "seqAlu", unfollowed := true, recurses := true, apart := false, narrowed := true }
def SeqAluUptoSaid : Prop := seqAluUptoRow.holds Try.pinned (OpenSpec.upto seqAluSpec)

/-- 'sledgelaw5.SeqPairs', WHERE WHAT IT READS IS OF BULK AT MOST 1048576: true; the input reads as it did. -/
def seqPairsUptoRow : OpenClaim := { program := "ytadajdcbeegabaa", sum := "db8c5c603e4e4908b3ff24639fd5d130016de88c6853a25f506bb4d6369861f6", func := "sledge/sledgelaw5.SeqPairs", spec := "seqPairs", unfollowed := true, recurses := true, apart := false, narrowed := true }
def SeqPairsUptoSaid : Prop := seqPairsUptoRow.holds Try.pinned (OpenSpec.upto seqPairsSpec)

/-- 'sledgelaw5.SeqQuotients', WHERE WHAT IT READS IS OF BULK AT MOST 1048576: true; the input reads as it did. -/
def seqQuotientsUptoRow : OpenClaim := { program := "ytadajdcbeegabaa", sum := "db8c5c603e4e4908b3ff24639fd5d130016de88c6853a25f506bb4d6369861f6", func := "sledge/sledgelaw5.SeqQuotients", spec := "seqQuotients", unfollowed := true, recurses := true, apart := false, narrowed := true }
def SeqQuotientsUptoSaid : Prop := seqQuotientsUptoRow.holds Try.pinned (OpenSpec.upto seqQuotientsSpec)

/-- 'sledgelaw5.SeqMemory', WHERE WHAT IT READS IS OF BULK AT MOST 1048576: true; the input reads as it did. -/
def seqMemoryUptoRow : OpenClaim := { program := "ytadajdcbeegabaa", sum := "db8c5c603e4e4908b3ff24639fd5d130016de88c6853a25f506bb4d6369861f6", func := "sledge/sledgelaw5.SeqMemory", spec := "seqMemory", unfollowed := true, recurses := true, apart := false, narrowed := true }
def SeqMemoryUptoSaid : Prop := seqMemoryUptoRow.holds Try.pinned (OpenSpec.upto seqMemorySpec)

/-- 'sledgelaw5.SeqJumps', WHERE WHAT IT READS IS OF BULK AT MOST 1048576: true; the input reads as it did. -/
def seqJumpsUptoRow : OpenClaim := { program := "ytadajdcbeegabaa", sum := "db8c5c603e4e4908b3ff24639fd5d130016de88c6853a25f506bb4d6369861f6", func := "sledge/sledgelaw5.SeqJumps", spec := "seqJumps", unfollowed := true, recurses := true, apart := false, narrowed := true }
def SeqJumpsUptoSaid : Prop := seqJumpsUptoRow.holds Try.pinned (OpenSpec.upto seqJumpsSpec)

/-- 'sledgelaw5.SeqCalls', WHERE WHAT IT READS IS OF BULK AT MOST 1048576: true; the input reads as it did. -/
def seqCallsUptoRow : OpenClaim := { program := "ytadajdcbeegabaa", sum := "db8c5c603e4e4908b3ff24639fd5d130016de88c6853a25f506bb4d6369861f6", func := "sledge/sledgelaw5.SeqCalls", spec := "seqCalls", unfollowed := true, recurses := true, apart := false, narrowed := true }
def SeqCallsUptoSaid : Prop := seqCallsUptoRow.holds Try.pinned (OpenSpec.upto seqCallsSpec)

/-- 'sledgelaw5.SeqPorts', WHERE WHAT IT READS IS OF BULK AT MOST 1048576: true; the input reads as it did. -/
def seqPortsUptoRow : OpenClaim := { program := "ytadajdcbeegabaa", sum := "db8c5c603e4e4908b3ff24639fd5d130016de88c6853a25f506bb4d6369861f6", func := "sledge/sledgelaw5.SeqPorts", spec := "seqPorts", unfollowed := true, recurses := true, apart := false, narrowed := true }
def SeqPortsUptoSaid : Prop := seqPortsUptoRow.holds Try.pinned (OpenSpec.upto seqPortsSpec)

/-- 'sledgelaw5.SeqSteps', WHERE WHAT IT READS IS OF BULK AT MOST 1048576: true; the input reads as it did. -/
def seqStepsUptoRow : OpenClaim := { program := "ytadajdcbeegabaa", sum := "db8c5c603e4e4908b3ff24639fd5d130016de88c6853a25f506bb4d6369861f6", func := "sledge/sledgelaw5.SeqSteps", spec := "seqSteps", unfollowed := true, recurses := true, apart := false, narrowed := true }
def SeqStepsUptoSaid : Prop := seqStepsUptoRow.holds Try.pinned (OpenSpec.upto seqStepsSpec)

end Rows
end Go.Proofs.Ytadajdcbeegabaa
