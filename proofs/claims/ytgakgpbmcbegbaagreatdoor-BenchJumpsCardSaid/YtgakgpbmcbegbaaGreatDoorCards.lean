/-
  DERIVED. GIVEN WITH THE SEED: THE CARDS: each row of YtgakgpbmcbegbaaGreatDoorRows.lean that lists a variable, with what it lists TIED to the program's text (the seventh form; the later family's looks); each row that meets fmt, with fmt's text TOLD by the authors' own Lean function (tested against real Go, not proved from fmt's source: count such statements apart). THE CARD IS WHAT COUNTS. Prove the row's statement (the work); the ties are given (YtgakgpbmcbegbaaGreatDoorTie.lean); close each card by the builder's one call (the guide's Derived/Test/ToyasCard.lean, 'card_holds'). Laid BY PROGRAM, IN A SANDBOX (cutbox-door.mjs). By AI agents, Wed Nov 11 2026. No macro, syntax, notation, axiom, sorry.
-/
import Derived.Test.YtgakgpbmcbegbaaGreatDoorRows
import GoSem.ClaimSeven
namespace Go.Proofs.YtgakgpbmcbegbaaGreatDoor
namespace Rows

/-- THE TIED CARD OF 'sledgelaw23.BenchPorts'. -/
def benchPortsCard : Claim7 := { stood := { row := benchPortsRow, standIns := [], harness := (true, "a7127771f8693921f78202468ab9097048d41abf23a9430926d829048329a152"), looks := false }, kinds := [], alts := [], laidByText := true, laidKinds := [.data, .data, .data], laidTests := true, laidLooks := .later }
def BenchPortsCardSaid : Prop := Claim7.holds Tryz.pinned (.plain (OpenSpec.ofChange benchPortsSpec)) benchPortsCard

/-- THE TIED CARD OF 'sledgelaw23.BenchPairs'. -/
def benchPairsCard : Claim7 := { stood := { row := benchPairsRow, standIns := [], harness := (true, "a7127771f8693921f78202468ab9097048d41abf23a9430926d829048329a152"), looks := false }, kinds := [], alts := [], laidByText := true, laidKinds := [.data, .data, .data], laidTests := true, laidLooks := .later }
def BenchPairsCardSaid : Prop := Claim7.holds Tryz.pinned (.plain (OpenSpec.ofChange benchPairsSpec)) benchPairsCard

/-- THE TIED CARD OF 'sledgelaw23.BenchFaults'. -/
def benchFaultsCard : Claim7 := { stood := { row := benchFaultsRow, standIns := [], harness := (true, "a7127771f8693921f78202468ab9097048d41abf23a9430926d829048329a152"), looks := false }, kinds := [], alts := [], laidByText := true, laidKinds := [.data, .data, .data], laidTests := true, laidLooks := .later }
def BenchFaultsCardSaid : Prop := Claim7.holds Tryz.pinned (.plain (OpenSpec.ofChange benchFaultsSpec)) benchFaultsCard

/-- THE TIED CARD OF 'sledgelaw23.BenchChains'. -/
def benchChainsCard : Claim7 := { stood := { row := benchChainsRow, standIns := [], harness := (true, "a7127771f8693921f78202468ab9097048d41abf23a9430926d829048329a152"), looks := false }, kinds := [], alts := [], laidByText := true, laidKinds := [.data, .data, .data], laidTests := true, laidLooks := .later }
def BenchChainsCardSaid : Prop := Claim7.holds Tryz.pinned (.plain (OpenSpec.ofChange benchChainsSpec)) benchChainsCard

/-- THE TIED CARD OF 'sledgelaw23.BenchJumps'. -/
def benchJumpsCard : Claim7 := { stood := { row := benchJumpsRow, standIns := [], harness := (true, "a7127771f8693921f78202468ab9097048d41abf23a9430926d829048329a152"), looks := false }, kinds := [], alts := [], laidByText := true, laidKinds := [.data, .data, .data], laidTests := true, laidLooks := .later }
def BenchJumpsCardSaid : Prop := Claim7.holds Tryz.pinned (.plain (OpenSpec.ofChange benchJumpsSpec)) benchJumpsCard

/-- THE SECOND FORM's CARD OF 'sledgelaw23.BenchPorts'. -/
def benchPortsUptoCard : Claim7 := { stood := { row := benchPortsUptoRow, standIns := [], harness := (true, "a7127771f8693921f78202468ab9097048d41abf23a9430926d829048329a152"), looks := false }, kinds := [], alts := [], laidByText := true, laidKinds := [.data, .data, .data], laidTests := true, laidLooks := .later }
def BenchPortsUptoCardSaid : Prop := Claim7.holds Tryz.pinned (.plain (OpenSpec.upto benchPortsSpec)) benchPortsUptoCard

/-- THE SECOND FORM's CARD OF 'sledgelaw23.BenchPairs'. -/
def benchPairsUptoCard : Claim7 := { stood := { row := benchPairsUptoRow, standIns := [], harness := (true, "a7127771f8693921f78202468ab9097048d41abf23a9430926d829048329a152"), looks := false }, kinds := [], alts := [], laidByText := true, laidKinds := [.data, .data, .data], laidTests := true, laidLooks := .later }
def BenchPairsUptoCardSaid : Prop := Claim7.holds Tryz.pinned (.plain (OpenSpec.upto benchPairsSpec)) benchPairsUptoCard

/-- THE SECOND FORM's CARD OF 'sledgelaw23.BenchFaults'. -/
def benchFaultsUptoCard : Claim7 := { stood := { row := benchFaultsUptoRow, standIns := [], harness := (true, "a7127771f8693921f78202468ab9097048d41abf23a9430926d829048329a152"), looks := false }, kinds := [], alts := [], laidByText := true, laidKinds := [.data, .data, .data], laidTests := true, laidLooks := .later }
def BenchFaultsUptoCardSaid : Prop := Claim7.holds Tryz.pinned (.plain (OpenSpec.upto benchFaultsSpec)) benchFaultsUptoCard

/-- THE SECOND FORM's CARD OF 'sledgelaw23.BenchChains'. -/
def benchChainsUptoCard : Claim7 := { stood := { row := benchChainsUptoRow, standIns := [], harness := (true, "a7127771f8693921f78202468ab9097048d41abf23a9430926d829048329a152"), looks := false }, kinds := [], alts := [], laidByText := true, laidKinds := [.data, .data, .data], laidTests := true, laidLooks := .later }
def BenchChainsUptoCardSaid : Prop := Claim7.holds Tryz.pinned (.plain (OpenSpec.upto benchChainsSpec)) benchChainsUptoCard

/-- THE SECOND FORM's CARD OF 'sledgelaw23.BenchJumps'. -/
def benchJumpsUptoCard : Claim7 := { stood := { row := benchJumpsUptoRow, standIns := [], harness := (true, "a7127771f8693921f78202468ab9097048d41abf23a9430926d829048329a152"), looks := false }, kinds := [], alts := [], laidByText := true, laidKinds := [.data, .data, .data], laidTests := true, laidLooks := .later }
def BenchJumpsUptoCardSaid : Prop := Claim7.holds Tryz.pinned (.plain (OpenSpec.upto benchJumpsSpec)) benchJumpsUptoCard
end Rows
end Go.Proofs.YtgakgpbmcbegbaaGreatDoor
