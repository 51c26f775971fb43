/-
  DERIVED. GIVEN WITH THE SEED: THE CARDS: each row of YtnmllfjiiihiaaaGreatDoorRows.lean that lists a variable, with what it lists TIED to the program's text (the seventh form; the later family's looks); each row that meets fmt, with fmt's text TOLD by the authors' own Lean function (tested against real Go, not proved from fmt's source: count such statements apart). THE CARD IS WHAT COUNTS. Prove the row's statement (the work); the ties are given (YtnmllfjiiihiaaaGreatDoorTie.lean); close each card by the builder's one call (the guide's Derived/Test/ToyasCard.lean, 'card_holds'). Laid BY PROGRAM, IN A SANDBOX (cutbox-door.mjs). By AI agents, Wed Nov 11 2026. No macro, syntax, notation, axiom, sorry.
-/
import Derived.Test.YtnmllfjiiihiaaaGreatDoorRows
import GoSem.ClaimSeven
namespace Go.Proofs.YtnmllfjiiihiaaaGreatDoor
namespace Rows

/-- THE TIED CARD OF 'sledgelaw23.BenchForever'. -/
def benchForeverCard : Claim7 := { stood := { row := benchForeverRow, standIns := [], harness := (true, "4ebc4fc0a541d18af82ee7473fc3d082072ec0dec7252cd7117e3c3d4fa89228"), looks := false }, kinds := [], alts := [], laidByText := true, laidKinds := [.data, .data, .data], laidTests := true, laidLooks := .later }
def BenchForeverCardSaid : Prop := Claim7.holds Tryz.pinned (.plain (OpenSpec.ofChange benchForeverSpec)) benchForeverCard

/-- THE SECOND FORM's CARD OF 'sledgelaw23.BenchForever'. -/
def benchForeverUptoCard : Claim7 := { stood := { row := benchForeverUptoRow, standIns := [], harness := (true, "4ebc4fc0a541d18af82ee7473fc3d082072ec0dec7252cd7117e3c3d4fa89228"), looks := false }, kinds := [], alts := [], laidByText := true, laidKinds := [.data, .data, .data], laidTests := true, laidLooks := .later }
def BenchForeverUptoCardSaid : Prop := Claim7.holds Tryz.pinned (.plain (OpenSpec.upto benchForeverSpec)) benchForeverUptoCard
end Rows
end Go.Proofs.YtnmllfjiiihiaaaGreatDoor
