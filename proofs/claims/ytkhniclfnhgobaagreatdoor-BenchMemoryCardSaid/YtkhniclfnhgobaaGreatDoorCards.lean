/-
  DERIVED. GIVEN WITH THE SEED: THE CARDS: each row of YtkhniclfnhgobaaGreatDoorRows.lean that lists a variable, with what it lists TIED to the program's text (the seventh form; the later family's looks); each row that meets fmt, with fmt's text TOLD by the authors' own Lean function (tested against real Go, not proved from fmt's source: count such statements apart). THE CARD IS WHAT COUNTS. Prove the row's statement (the work); the ties are given (YtkhniclfnhgobaaGreatDoorTie.lean); close each card by the builder's one call (the guide's Derived/Test/ToyasCard.lean, 'card_holds'). Laid BY PROGRAM, IN A SANDBOX (cutbox-door.mjs). By AI agents, Wed Nov 11 2026. No macro, syntax, notation, axiom, sorry.
-/
import Derived.Test.YtkhniclfnhgobaaGreatDoorRows
import GoSem.ClaimSeven
namespace Go.Proofs.YtkhniclfnhgobaaGreatDoor
namespace Rows

/-- THE TIED CARD OF 'sledgelaw23.BenchLoops'. -/
def benchLoopsCard : Claim7 := { stood := { row := benchLoopsRow, standIns := [], harness := (true, "b8a983f7f7d84308a048d12ee4e46cb300b393fb75609758c1a837d5a6e2ab72"), looks := false }, kinds := [], alts := [], laidByText := true, laidKinds := [.data, .data, .data], laidTests := true, laidLooks := .later }
def BenchLoopsCardSaid : Prop := Claim7.holds Tryz.pinned (.plain (OpenSpec.ofChange benchLoopsSpec)) benchLoopsCard

/-- THE TIED CARD OF 'sledgelaw23.BenchMemory'. -/
def benchMemoryCard : Claim7 := { stood := { row := benchMemoryRow, standIns := [], harness := (true, "b8a983f7f7d84308a048d12ee4e46cb300b393fb75609758c1a837d5a6e2ab72"), looks := false }, kinds := [], alts := [], laidByText := true, laidKinds := [.data, .data, .data], laidTests := true, laidLooks := .later }
def BenchMemoryCardSaid : Prop := Claim7.holds Tryz.pinned (.plain (OpenSpec.ofChange benchMemorySpec)) benchMemoryCard

/-- THE SECOND FORM's CARD OF 'sledgelaw23.BenchLoops'. -/
def benchLoopsUptoCard : Claim7 := { stood := { row := benchLoopsUptoRow, standIns := [], harness := (true, "b8a983f7f7d84308a048d12ee4e46cb300b393fb75609758c1a837d5a6e2ab72"), looks := false }, kinds := [], alts := [], laidByText := true, laidKinds := [.data, .data, .data], laidTests := true, laidLooks := .later }
def BenchLoopsUptoCardSaid : Prop := Claim7.holds Tryz.pinned (.plain (OpenSpec.upto benchLoopsSpec)) benchLoopsUptoCard

/-- THE SECOND FORM's CARD OF 'sledgelaw23.BenchMemory'. -/
def benchMemoryUptoCard : Claim7 := { stood := { row := benchMemoryUptoRow, standIns := [], harness := (true, "b8a983f7f7d84308a048d12ee4e46cb300b393fb75609758c1a837d5a6e2ab72"), looks := false }, kinds := [], alts := [], laidByText := true, laidKinds := [.data, .data, .data], laidTests := true, laidLooks := .later }
def BenchMemoryUptoCardSaid : Prop := Claim7.holds Tryz.pinned (.plain (OpenSpec.upto benchMemorySpec)) benchMemoryUptoCard
end Rows
end Go.Proofs.YtkhniclfnhgobaaGreatDoor
