/-
  No cell of these rows narrows 'for every input' (looked for: loops, veiled, ifaces, maps, wideKeys, modest, calm, conditions, laid).
  DERIVED. THE GIVEN ROWS OF THIS SEAT. 11 by the template 'for every input the law returns true; each argument reads behind the call as it read before'; 0 by the template 'total and deterministic' (their statements: YthbpicnbkdbbmaaGreatTotals.lean).
  GIVEN WITH THE SEED: the statements are not yours to turn. If you find one false, say at which input.
  Laid BY PROGRAM, IN A SANDBOX (cutbox-rows.mjs): the forced cells as the released guide's own fill.sh prints them over the translation aa693ace2e97b6a9… (all of the seat's roots in one cut). By AI agents, Wed Nov 11 2026. No macro, syntax, notation, axiom, sorry.
-/
import Derived.Test.YthbpicnbkdbbmaaGreatChecked
import GoSem.Claim
import GoSem.ClaimJoined
import GoSem.ClaimMapViews
import Derived.JoinedTies
import Derived.KernelRfl
namespace Go.Proofs.YthbpicnbkdbbmaaGreat
/- THE CELL 'sum', in the pinned program and in every row, IS THE sha256 OF THE DUMP (.gsa) THAT YthbpicnbkdbbmaaGreatProg.lean LOADS. Nothing in Lean hashes anything: it is a label: what it is worth is what the hold of that sum in a sandbox is worth. -/
noncomputable def Tryz.pinned : Pinned := { name := "ythbpicnbkdbbmaagreat", sum := "aa693ace2e97b6a98509895fd1b5c64a75c0b26af1ddf8e51516d10236e48d8d", checked := Tryz.checked }
namespace Rows
def none {H : Type} : Left H := { results := [], args := [] }

/-- 'sledgelaw6.PipeJumps': WHATEVER THE INPUT: true; the input reads as it did. -/
def pipeJumpsSpec : ChangeSpec := { name := "pipeJumps", fn := fun _ => fun
  | [d] => { results := [.lit (.bool true)], args := [d] }
  | _ => none }
def pipeJumpsRow : OpenClaim := { program := "ythbpicnbkdbbmaagreat", sum := "aa693ace2e97b6a98509895fd1b5c64a75c0b26af1ddf8e51516d10236e48d8d", func := "sledge/sledgelaw6.PipeJumps", spec := "pipeJumps", unfollowed := true, recurses := true, apart := false }
def PipeJumpsSaid : Prop := pipeJumpsRow.holds Tryz.pinned (OpenSpec.ofChange pipeJumpsSpec)

/-- ITS FALSE NEIGHBOUR: 'it returns false'. Refute it at one input. -/
def pipeJumpsWrong : ChangeSpec := { name := "pipeJumps", fn := fun _ => fun
  | [d] => { results := [.lit (.bool false)], args := [d] }
  | _ => none }
def PipeJumpsWrongFalsely : Prop := pipeJumpsRow.holds Tryz.pinned (OpenSpec.ofChange pipeJumpsWrong)

/-- 'sledgelaw6.PipeCalls': WHATEVER THE INPUT: true; the input reads as it did. -/
def pipeCallsSpec : ChangeSpec := { name := "pipeCalls", fn := fun _ => fun
  | [d] => { results := [.lit (.bool true)], args := [d] }
  | _ => none }
def pipeCallsRow : OpenClaim := { program := "ythbpicnbkdbbmaagreat", sum := "aa693ace2e97b6a98509895fd1b5c64a75c0b26af1ddf8e51516d10236e48d8d", func := "sledge/sledgelaw6.PipeCalls", spec := "pipeCalls", unfollowed := true, recurses := true, apart := false }
def PipeCallsSaid : Prop := pipeCallsRow.holds Tryz.pinned (OpenSpec.ofChange pipeCallsSpec)

/-- ITS FALSE NEIGHBOUR: 'it returns false'. Refute it at one input. -/
def pipeCallsWrong : ChangeSpec := { name := "pipeCalls", fn := fun _ => fun
  | [d] => { results := [.lit (.bool false)], args := [d] }
  | _ => none }
def PipeCallsWrongFalsely : Prop := pipeCallsRow.holds Tryz.pinned (OpenSpec.ofChange pipeCallsWrong)

/-- 'sledgelaw6.PipeStops': WHATEVER THE INPUT: true; the input reads as it did. -/
def pipeStopsSpec : ChangeSpec := { name := "pipeStops", fn := fun _ => fun
  | [d] => { results := [.lit (.bool true)], args := [d] }
  | _ => none }
def pipeStopsRow : OpenClaim := { program := "ythbpicnbkdbbmaagreat", sum := "aa693ace2e97b6a98509895fd1b5c64a75c0b26af1ddf8e51516d10236e48d8d", func := "sledge/sledgelaw6.PipeStops", spec := "pipeStops", unfollowed := true, recurses := true, apart := false }
def PipeStopsSaid : Prop := pipeStopsRow.holds Tryz.pinned (OpenSpec.ofChange pipeStopsSpec)

/-- ITS FALSE NEIGHBOUR: 'it returns false'. Refute it at one input. -/
def pipeStopsWrong : ChangeSpec := { name := "pipeStops", fn := fun _ => fun
  | [d] => { results := [.lit (.bool false)], args := [d] }
  | _ => none }
def PipeStopsWrongFalsely : Prop := pipeStopsRow.holds Tryz.pinned (OpenSpec.ofChange pipeStopsWrong)

/-- 'sledgelaw6.PipeHalts': WHATEVER THE INPUT: true; the input reads as it did. -/
def pipeHaltsSpec : ChangeSpec := { name := "pipeHalts", fn := fun _ => fun
  | [d] => { results := [.lit (.bool true)], args := [d] }
  | _ => none }
def pipeHaltsRow : OpenClaim := { program := "ythbpicnbkdbbmaagreat", sum := "aa693ace2e97b6a98509895fd1b5c64a75c0b26af1ddf8e51516d10236e48d8d", func := "sledge/sledgelaw6.PipeHalts", spec := "pipeHalts", unfollowed := true, recurses := true, apart := false }
def PipeHaltsSaid : Prop := pipeHaltsRow.holds Tryz.pinned (OpenSpec.ofChange pipeHaltsSpec)

/-- ITS FALSE NEIGHBOUR: 'it returns false'. Refute it at one input. -/
def pipeHaltsWrong : ChangeSpec := { name := "pipeHalts", fn := fun _ => fun
  | [d] => { results := [.lit (.bool false)], args := [d] }
  | _ => none }
def PipeHaltsWrongFalsely : Prop := pipeHaltsRow.holds Tryz.pinned (OpenSpec.ofChange pipeHaltsWrong)

/-- 'sledgelaw6.PipePorts': WHATEVER THE INPUT: true; the input reads as it did. -/
def pipePortsSpec : ChangeSpec := { name := "pipePorts", fn := fun _ => fun
  | [d] => { results := [.lit (.bool true)], args := [d] }
  | _ => none }
def pipePortsRow : OpenClaim := { program := "ythbpicnbkdbbmaagreat", sum := "aa693ace2e97b6a98509895fd1b5c64a75c0b26af1ddf8e51516d10236e48d8d", func := "sledge/sledgelaw6.PipePorts", spec := "pipePorts", unfollowed := true, recurses := true, apart := false }
def PipePortsSaid : Prop := pipePortsRow.holds Tryz.pinned (OpenSpec.ofChange pipePortsSpec)

/-- ITS FALSE NEIGHBOUR: 'it returns false'. Refute it at one input. -/
def pipePortsWrong : ChangeSpec := { name := "pipePorts", fn := fun _ => fun
  | [d] => { results := [.lit (.bool false)], args := [d] }
  | _ => none }
def PipePortsWrongFalsely : Prop := pipePortsRow.holds Tryz.pinned (OpenSpec.ofChange pipePortsWrong)

/-- 'sledgelaw6.PipeCycles': WHATEVER THE INPUT: true; the input reads as it did. -/
def pipeCyclesSpec : ChangeSpec := { name := "pipeCycles", fn := fun _ => fun
  | [d] => { results := [.lit (.bool true)], args := [d] }
  | _ => none }
def pipeCyclesRow : OpenClaim := { program := "ythbpicnbkdbbmaagreat", sum := "aa693ace2e97b6a98509895fd1b5c64a75c0b26af1ddf8e51516d10236e48d8d", func := "sledge/sledgelaw6.PipeCycles", spec := "pipeCycles", unfollowed := true, recurses := true, apart := false }
def PipeCyclesSaid : Prop := pipeCyclesRow.holds Tryz.pinned (OpenSpec.ofChange pipeCyclesSpec)

/-- ITS FALSE NEIGHBOUR: 'it returns false'. Refute it at one input. -/
def pipeCyclesWrong : ChangeSpec := { name := "pipeCycles", fn := fun _ => fun
  | [d] => { results := [.lit (.bool false)], args := [d] }
  | _ => none }
def PipeCyclesWrongFalsely : Prop := pipeCyclesRow.holds Tryz.pinned (OpenSpec.ofChange pipeCyclesWrong)

/-- 'sledgelaw7.HazardFinds': WHATEVER THE INPUT: true; the input reads as it did. -/
def hazardFindsSpec : ChangeSpec := { name := "hazardFinds", fn := fun _ => fun
  | [d] => { results := [.lit (.bool true)], args := [d] }
  | _ => none }
def hazardFindsRow : OpenClaim := { program := "ythbpicnbkdbbmaagreat", sum := "aa693ace2e97b6a98509895fd1b5c64a75c0b26af1ddf8e51516d10236e48d8d", func := "sledge/sledgelaw7.HazardFinds", spec := "hazardFinds", unfollowed := true, recurses := true, apart := false }
def HazardFindsSaid : Prop := hazardFindsRow.holds Tryz.pinned (OpenSpec.ofChange hazardFindsSpec)

/-- ITS FALSE NEIGHBOUR: 'it returns false'. Refute it at one input. -/
def hazardFindsWrong : ChangeSpec := { name := "hazardFinds", fn := fun _ => fun
  | [d] => { results := [.lit (.bool false)], args := [d] }
  | _ => none }
def HazardFindsWrongFalsely : Prop := hazardFindsRow.holds Tryz.pinned (OpenSpec.ofChange hazardFindsWrong)

/-- 'sledgelaw7.HazardReads': WHATEVER THE INPUT: true; the input reads as it did. -/
def hazardReadsSpec : ChangeSpec := { name := "hazardReads", fn := fun _ => fun
  | [d] => { results := [.lit (.bool true)], args := [d] }
  | _ => none }
def hazardReadsRow : OpenClaim := { program := "ythbpicnbkdbbmaagreat", sum := "aa693ace2e97b6a98509895fd1b5c64a75c0b26af1ddf8e51516d10236e48d8d", func := "sledge/sledgelaw7.HazardReads", spec := "hazardReads", unfollowed := true, recurses := true, apart := false }
def HazardReadsSaid : Prop := hazardReadsRow.holds Tryz.pinned (OpenSpec.ofChange hazardReadsSpec)

/-- ITS FALSE NEIGHBOUR: 'it returns false'. Refute it at one input. -/
def hazardReadsWrong : ChangeSpec := { name := "hazardReads", fn := fun _ => fun
  | [d] => { results := [.lit (.bool false)], args := [d] }
  | _ => none }
def HazardReadsWrongFalsely : Prop := hazardReadsRow.holds Tryz.pinned (OpenSpec.ofChange hazardReadsWrong)

/-- 'sledgelaw7.HazardWrites': WHATEVER THE INPUT: true; the input reads as it did. -/
def hazardWritesSpec : ChangeSpec := { name := "hazardWrites", fn := fun _ => fun
  | [d] => { results := [.lit (.bool true)], args := [d] }
  | _ => none }
def hazardWritesRow : OpenClaim := { program := "ythbpicnbkdbbmaagreat", sum := "aa693ace2e97b6a98509895fd1b5c64a75c0b26af1ddf8e51516d10236e48d8d", func := "sledge/sledgelaw7.HazardWrites", spec := "hazardWrites", unfollowed := true, recurses := true, apart := false }
def HazardWritesSaid : Prop := hazardWritesRow.holds Tryz.pinned (OpenSpec.ofChange hazardWritesSpec)

/-- ITS FALSE NEIGHBOUR: 'it returns false'. Refute it at one input. -/
def hazardWritesWrong : ChangeSpec := { name := "hazardWrites", fn := fun _ => fun
  | [d] => { results := [.lit (.bool false)], args := [d] }
  | _ => none }
def HazardWritesWrongFalsely : Prop := hazardWritesRow.holds Tryz.pinned (OpenSpec.ofChange hazardWritesWrong)

/-- 'sledgelaw7.HazardJumps': WHATEVER THE INPUT: true; the input reads as it did. -/
def hazardJumpsSpec : ChangeSpec := { name := "hazardJumps", fn := fun _ => fun
  | [d] => { results := [.lit (.bool true)], args := [d] }
  | _ => none }
def hazardJumpsRow : OpenClaim := { program := "ythbpicnbkdbbmaagreat", sum := "aa693ace2e97b6a98509895fd1b5c64a75c0b26af1ddf8e51516d10236e48d8d", func := "sledge/sledgelaw7.HazardJumps", spec := "hazardJumps", unfollowed := true, recurses := true, apart := false }
def HazardJumpsSaid : Prop := hazardJumpsRow.holds Tryz.pinned (OpenSpec.ofChange hazardJumpsSpec)

/-- ITS FALSE NEIGHBOUR: 'it returns false'. Refute it at one input. -/
def hazardJumpsWrong : ChangeSpec := { name := "hazardJumps", fn := fun _ => fun
  | [d] => { results := [.lit (.bool false)], args := [d] }
  | _ => none }
def HazardJumpsWrongFalsely : Prop := hazardJumpsRow.holds Tryz.pinned (OpenSpec.ofChange hazardJumpsWrong)

/-- 'sledgelaw7.HazardSame': WHATEVER THE INPUT: true; the input reads as it did. -/
def hazardSameSpec : ChangeSpec := { name := "hazardSame", fn := fun _ => fun
  | [d] => { results := [.lit (.bool true)], args := [d] }
  | _ => none }
def hazardSameRow : OpenClaim := { program := "ythbpicnbkdbbmaagreat", sum := "aa693ace2e97b6a98509895fd1b5c64a75c0b26af1ddf8e51516d10236e48d8d", func := "sledge/sledgelaw7.HazardSame", spec := "hazardSame", unfollowed := true, recurses := true, apart := false }
def HazardSameSaid : Prop := hazardSameRow.holds Tryz.pinned (OpenSpec.ofChange hazardSameSpec)

/-- ITS FALSE NEIGHBOUR: 'it returns false'. Refute it at one input. -/
def hazardSameWrong : ChangeSpec := { name := "hazardSame", fn := fun _ => fun
  | [d] => { results := [.lit (.bool false)], args := [d] }
  | _ => none }
def HazardSameWrongFalsely : Prop := hazardSameRow.holds Tryz.pinned (OpenSpec.ofChange hazardSameWrong)

/- THE SECOND FORM. 'bulk': how many values and letters a reading holds, each counted each time it is reached (what is shared counts as often as it is met; a slice's spare places count too). A statement '..UptoSaid' is the law's where the arguments, and the package variables that the reading takes, are together of bulk at most 1048576: NARROWER than '..Said'. Prove '..Said' where nothing that the law and all that it calls make is longer than what came in: it says more and counts as full. Else prove '..UptoSaid'. A law counts once. -/
mutual
def uptoBulk {H : Type} : DataW H → Nat
  | .lit (.string bytes) => bytes.length + 1
  | .lit _ => 1
  | .nil => 1
  | .ptr d => uptoBulk d + 1
  | .slice elems spare => uptoBulkAll elems + uptoBulkAll spare + 1
  | .agg parts => uptoBulkAll parts + 1
  | .iface _ d => uptoBulk d + 1
  | .map entries => uptoBulkEntries entries + 1
  | .held _ => 1
def uptoBulkAll {H : Type} : List (DataW H) → Nat
  | [] => 0
  | d :: r => uptoBulk d + uptoBulkAll r
def uptoBulkEntries {H : Type} : List (Lit × DataW H) → Nat
  | [] => 0
  | x :: r => uptoBulkEntry x + uptoBulkEntries r
def uptoBulkEntry {H : Type} : Lit × DataW H → Nat
  | (.string bytes, d) => bytes.length + uptoBulk d + 1
  | (_, d) => uptoBulk d + 1
 end
def uptoSmall : (H : Type) → List (DataW H) → Bool := fun _ ds => decide (uptoBulkAll ds ≤ 1048576)
def OpenSpec.upto (s : _root_.Go.ChangeSpec) : _root_.Go.OpenSpec := { _root_.Go.OpenSpec.ofChange s with cond := some uptoSmall }

/-- 'sledgelaw6.PipeJumps', WHERE WHAT IT READS IS OF BULK AT MOST 1048576: true; the input reads as it did. -/
def pipeJumpsUptoRow : OpenClaim := { program := "ythbpicnbkdbbmaagreat", sum := "aa693ace2e97b6a98509895fd1b5c64a75c0b26af1ddf8e51516d10236e48d8d", func := "sledge/sledgelaw6.PipeJumps", spec := "pipeJumps", unfollowed := true, recurses := true, apart := false, narrowed := true }
def PipeJumpsUptoSaid : Prop := pipeJumpsUptoRow.holds Tryz.pinned (OpenSpec.upto pipeJumpsSpec)

/-- 'sledgelaw6.PipeCalls', WHERE WHAT IT READS IS OF BULK AT MOST 1048576: true; the input reads as it did. -/
def pipeCallsUptoRow : OpenClaim := { program := "ythbpicnbkdbbmaagreat", sum := "aa693ace2e97b6a98509895fd1b5c64a75c0b26af1ddf8e51516d10236e48d8d", func := "sledge/sledgelaw6.PipeCalls", spec := "pipeCalls", unfollowed := true, recurses := true, apart := false, narrowed := true }
def PipeCallsUptoSaid : Prop := pipeCallsUptoRow.holds Tryz.pinned (OpenSpec.upto pipeCallsSpec)

/-- 'sledgelaw6.PipeStops', WHERE WHAT IT READS IS OF BULK AT MOST 1048576: true; the input reads as it did. -/
def pipeStopsUptoRow : OpenClaim := { program := "ythbpicnbkdbbmaagreat", sum := "aa693ace2e97b6a98509895fd1b5c64a75c0b26af1ddf8e51516d10236e48d8d", func := "sledge/sledgelaw6.PipeStops", spec := "pipeStops", unfollowed := true, recurses := true, apart := false, narrowed := true }
def PipeStopsUptoSaid : Prop := pipeStopsUptoRow.holds Tryz.pinned (OpenSpec.upto pipeStopsSpec)

/-- 'sledgelaw6.PipeHalts', WHERE WHAT IT READS IS OF BULK AT MOST 1048576: true; the input reads as it did. -/
def pipeHaltsUptoRow : OpenClaim := { program := "ythbpicnbkdbbmaagreat", sum := "aa693ace2e97b6a98509895fd1b5c64a75c0b26af1ddf8e51516d10236e48d8d", func := "sledge/sledgelaw6.PipeHalts", spec := "pipeHalts", unfollowed := true, recurses := true, apart := false, narrowed := true }
def PipeHaltsUptoSaid : Prop := pipeHaltsUptoRow.holds Tryz.pinned (OpenSpec.upto pipeHaltsSpec)

/-- 'sledgelaw6.PipePorts', WHERE WHAT IT READS IS OF BULK AT MOST 1048576: true; the input reads as it did. -/
def pipePortsUptoRow : OpenClaim := { program := "ythbpicnbkdbbmaagreat", sum := "aa693ace2e97b6a98509895fd1b5c64a75c0b26af1ddf8e51516d10236e48d8d", func := "sledge/sledgelaw6.PipePorts", spec := "pipePorts", unfollowed := true, recurses := true, apart := false, narrowed := true }
def PipePortsUptoSaid : Prop := pipePortsUptoRow.holds Tryz.pinned (OpenSpec.upto pipePortsSpec)

/-- 'sledgelaw6.PipeCycles', WHERE WHAT IT READS IS OF BULK AT MOST 1048576: true; the input reads as it did. -/
def pipeCyclesUptoRow : OpenClaim := { program := "ythbpicnbkdbbmaagreat", sum := "aa693ace2e97b6a98509895fd1b5c64a75c0b26af1ddf8e51516d10236e48d8d", func := "sledge/sledgelaw6.PipeCycles", spec := "pipeCycles", unfollowed := true, recurses := true, apart := false, narrowed := true }
def PipeCyclesUptoSaid : Prop := pipeCyclesUptoRow.holds Tryz.pinned (OpenSpec.upto pipeCyclesSpec)

/-- 'sledgelaw7.HazardFinds', WHERE WHAT IT READS IS OF BULK AT MOST 1048576: true; the input reads as it did. -/
def hazardFindsUptoRow : OpenClaim := { program := "ythbpicnbkdbbmaagreat", sum := "aa693ace2e97b6a98509895fd1b5c64a75c0b26af1ddf8e51516d10236e48d8d", func := "sledge/sledgelaw7.HazardFinds", spec := "hazardFinds", unfollowed := true, recurses := true, apart := false, narrowed := true }
def HazardFindsUptoSaid : Prop := hazardFindsUptoRow.holds Tryz.pinned (OpenSpec.upto hazardFindsSpec)

/-- 'sledgelaw7.HazardReads', WHERE WHAT IT READS IS OF BULK AT MOST 1048576: true; the input reads as it did. -/
def hazardReadsUptoRow : OpenClaim := { program := "ythbpicnbkdbbmaagreat", sum := "aa693ace2e97b6a98509895fd1b5c64a75c0b26af1ddf8e51516d10236e48d8d", func := "sledge/sledgelaw7.HazardReads", spec := "hazardReads", unfollowed := true, recurses := true, apart := false, narrowed := true }
def HazardReadsUptoSaid : Prop := hazardReadsUptoRow.holds Tryz.pinned (OpenSpec.upto hazardReadsSpec)

/-- 'sledgelaw7.HazardWrites', WHERE WHAT IT READS IS OF BULK AT MOST 1048576: true; the input reads as it did. -/
def hazardWritesUptoRow : OpenClaim := { program := "ythbpicnbkdbbmaagreat", sum := "aa693ace2e97b6a98509895fd1b5c64a75c0b26af1ddf8e51516d10236e48d8d", func := "sledge/sledgelaw7.HazardWrites", spec := "hazardWrites", unfollowed := true, recurses := true, apart := false, narrowed := true }
def HazardWritesUptoSaid : Prop := hazardWritesUptoRow.holds Tryz.pinned (OpenSpec.upto hazardWritesSpec)

/-- 'sledgelaw7.HazardJumps', WHERE WHAT IT READS IS OF BULK AT MOST 1048576: true; the input reads as it did. -/
def hazardJumpsUptoRow : OpenClaim := { program := "ythbpicnbkdbbmaagreat", sum := "aa693ace2e97b6a98509895fd1b5c64a75c0b26af1ddf8e51516d10236e48d8d", func := "sledge/sledgelaw7.HazardJumps", spec := "hazardJumps", unfollowed := true, recurses := true, apart := false, narrowed := true }
def HazardJumpsUptoSaid : Prop := hazardJumpsUptoRow.holds Tryz.pinned (OpenSpec.upto hazardJumpsSpec)

/-- 'sledgelaw7.HazardSame', WHERE WHAT IT READS IS OF BULK AT MOST 1048576: true; the input reads as it did. -/
def hazardSameUptoRow : OpenClaim := { program := "ythbpicnbkdbbmaagreat", sum := "aa693ace2e97b6a98509895fd1b5c64a75c0b26af1ddf8e51516d10236e48d8d", func := "sledge/sledgelaw7.HazardSame", spec := "hazardSame", unfollowed := true, recurses := true, apart := false, narrowed := true }
def HazardSameUptoSaid : Prop := hazardSameUptoRow.holds Tryz.pinned (OpenSpec.upto hazardSameSpec)

end Rows
end Go.Proofs.YthbpicnbkdbbmaaGreat
