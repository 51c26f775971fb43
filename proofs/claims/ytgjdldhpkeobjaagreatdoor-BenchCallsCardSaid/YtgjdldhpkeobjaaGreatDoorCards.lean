/-
  DERIVED. GIVEN WITH THE SEED: THE CARDS: each row of YtgjdldhpkeobjaaGreatDoorRows.lean that lists a variable, with what it lists TIED to the program's text (the seventh form; the later family's looks); each row that meets fmt, with fmt's text TOLD by the authors' own Lean function (tested against real Go, not proved from fmt's source: count such statements apart). THE CARD IS WHAT COUNTS. Prove the row's statement (the work); the ties are given (YtgjdldhpkeobjaaGreatDoorTie.lean); close each card by the builder's one call (the guide's Derived/Test/ToyasCard.lean, 'card_holds'). Laid BY PROGRAM, IN A SANDBOX (cutbox-door.mjs). By AI agents, Wed Nov 11 2026. No macro, syntax, notation, axiom, sorry.
-/
import Derived.Test.YtgjdldhpkeobjaaGreatDoorRows
import GoSem.ClaimSeven
namespace Go.Proofs.YtgjdldhpkeobjaaGreatDoor
namespace Rows

/-- THE TIED CARD OF 'sledgelaw23.BenchCalls'. -/
def benchCallsCard : Claim7 := { stood := { row := benchCallsRow, standIns := [], harness := (true, "5dba787a74f5d6499d4a3efbb224cde0b68790d871e19556cbac369dd76155d8"), looks := false }, kinds := [], alts := [], laidByText := true, laidKinds := [.data, .data, .data], laidTests := true, laidLooks := .later }
def BenchCallsCardSaid : Prop := Claim7.holds Tryz.pinned (.plain (OpenSpec.ofChange benchCallsSpec)) benchCallsCard

/-- THE TIED CARD OF 'sledgelaw23.BenchPairs'. -/
def benchPairsCard : Claim7 := { stood := { row := benchPairsRow, standIns := [], harness := (true, "5dba787a74f5d6499d4a3efbb224cde0b68790d871e19556cbac369dd76155d8"), looks := false }, kinds := [], alts := [], laidByText := true, laidKinds := [.data, .data, .data], laidTests := true, laidLooks := .later }
def BenchPairsCardSaid : Prop := Claim7.holds Tryz.pinned (.plain (OpenSpec.ofChange benchPairsSpec)) benchPairsCard

/-- THE TIED CARD OF 'sledgelaw23.BenchForever'. -/
def benchForeverCard : Claim7 := { stood := { row := benchForeverRow, standIns := [], harness := (true, "5dba787a74f5d6499d4a3efbb224cde0b68790d871e19556cbac369dd76155d8"), looks := false }, kinds := [], alts := [], laidByText := true, laidKinds := [.data, .data, .data], laidTests := true, laidLooks := .later }
def BenchForeverCardSaid : Prop := Claim7.holds Tryz.pinned (.plain (OpenSpec.ofChange benchForeverSpec)) benchForeverCard

/-- THE SECOND FORM's CARD OF 'sledgelaw23.BenchCalls'. -/
def benchCallsUptoCard : Claim7 := { stood := { row := benchCallsUptoRow, standIns := [], harness := (true, "5dba787a74f5d6499d4a3efbb224cde0b68790d871e19556cbac369dd76155d8"), looks := false }, kinds := [], alts := [], laidByText := true, laidKinds := [.data, .data, .data], laidTests := true, laidLooks := .later }
def BenchCallsUptoCardSaid : Prop := Claim7.holds Tryz.pinned (.plain (OpenSpec.upto benchCallsSpec)) benchCallsUptoCard

/-- THE SECOND FORM's CARD OF 'sledgelaw23.BenchPairs'. -/
def benchPairsUptoCard : Claim7 := { stood := { row := benchPairsUptoRow, standIns := [], harness := (true, "5dba787a74f5d6499d4a3efbb224cde0b68790d871e19556cbac369dd76155d8"), looks := false }, kinds := [], alts := [], laidByText := true, laidKinds := [.data, .data, .data], laidTests := true, laidLooks := .later }
def BenchPairsUptoCardSaid : Prop := Claim7.holds Tryz.pinned (.plain (OpenSpec.upto benchPairsSpec)) benchPairsUptoCard

/-- THE SECOND FORM's CARD OF 'sledgelaw23.BenchForever'. -/
def benchForeverUptoCard : Claim7 := { stood := { row := benchForeverUptoRow, standIns := [], harness := (true, "5dba787a74f5d6499d4a3efbb224cde0b68790d871e19556cbac369dd76155d8"), looks := false }, kinds := [], alts := [], laidByText := true, laidKinds := [.data, .data, .data], laidTests := true, laidLooks := .later }
def BenchForeverUptoCardSaid : Prop := Claim7.holds Tryz.pinned (.plain (OpenSpec.upto benchForeverSpec)) benchForeverUptoCard
end Rows
end Go.Proofs.YtgjdldhpkeobjaaGreatDoor
