/-
  DERIVED. GIVEN WITH THE SEED: THE CARDS: each row of YtaplgcdpppcajaaDoorRows.lean that lists a variable, with what it lists TIED to the program's text (the seventh form; the later family's looks); each row that meets fmt, with fmt's text TOLD by the authors' own Lean function (tested against real Go, not proved from fmt's source: count such statements apart). THE CARD IS WHAT COUNTS. Prove the row's statement (the work); the ties are given (YtaplgcdpppcajaaDoorTie.lean); close each card by the builder's one call (the guide's Derived/Test/ToyasCard.lean, 'card_holds'). Laid BY PROGRAM, IN A SANDBOX (cutbox-door.mjs). By AI agents, Wed Nov 11 2026. No macro, syntax, notation, axiom, sorry.
-/
import Derived.Test.YtaplgcdpppcajaaDoorRows
import GoSem.ClaimSeven
namespace Go.Proofs.YtaplgcdpppcajaaDoor
namespace Rows

/-- THE TIED CARD OF 'sledgelaw3.IsaFields'. -/
def isaFieldsCard : Claim7 := { stood := { row := isaFieldsRow, standIns := [], harness := (true, "e77350401547e4ec5834c0e1a5894abd3768cc4cbcb0272b95e9ed4c567d25e3"), looks := false }, kinds := [], alts := [], laidByText := true, laidKinds := [.data, .data, .data, .listed, .data], laidTests := true, laidLooks := .later }
def IsaFieldsCardSaid : Prop := Claim7.holds Tryd.pinned (.plain (OpenSpec.ofChange isaFieldsSpec)) isaFieldsCard

/-- THE TIED CARD OF 'sledgelaw3.IsaTells'. -/
def isaTellsCard : Claim7 := { stood := { row := isaTellsRow, standIns := [], harness := (true, "e77350401547e4ec5834c0e1a5894abd3768cc4cbcb0272b95e9ed4c567d25e3"), looks := false }, kinds := [], alts := [], laidByText := true, laidKinds := [.data, .data, .data, .listed, .data], laidTests := true, laidLooks := .later }
def IsaTellsCardSaid : Prop := Claim7.holds Tryd.pinned (.plain (OpenSpec.ofChange isaTellsSpec)) isaTellsCard

/-- THE TIED CARD OF 'sledgelaw3.IsaTable'. -/
def isaTableCard : Claim7 := { stood := { row := isaTableRow, standIns := [], harness := (true, "e77350401547e4ec5834c0e1a5894abd3768cc4cbcb0272b95e9ed4c567d25e3"), looks := false }, kinds := [], alts := [], laidByText := true, laidKinds := [.data, .data, .data, .listed, .data], laidTests := true, laidLooks := .later }
def IsaTableCardSaid : Prop := Claim7.holds Tryd.pinned (.plain (OpenSpec.ofChange isaTableSpec)) isaTableCard

/-- THE SECOND FORM's CARD OF 'sledgelaw3.IsaFields'. -/
def isaFieldsUptoCard : Claim7 := { stood := { row := isaFieldsUptoRow, standIns := [], harness := (true, "e77350401547e4ec5834c0e1a5894abd3768cc4cbcb0272b95e9ed4c567d25e3"), looks := false }, kinds := [], alts := [], laidByText := true, laidKinds := [.data, .data, .data, .listed, .data], laidTests := true, laidLooks := .later }
def IsaFieldsUptoCardSaid : Prop := Claim7.holds Tryd.pinned (.plain (OpenSpec.upto isaFieldsSpec)) isaFieldsUptoCard

/-- THE SECOND FORM's CARD OF 'sledgelaw3.IsaTells'. -/
def isaTellsUptoCard : Claim7 := { stood := { row := isaTellsUptoRow, standIns := [], harness := (true, "e77350401547e4ec5834c0e1a5894abd3768cc4cbcb0272b95e9ed4c567d25e3"), looks := false }, kinds := [], alts := [], laidByText := true, laidKinds := [.data, .data, .data, .listed, .data], laidTests := true, laidLooks := .later }
def IsaTellsUptoCardSaid : Prop := Claim7.holds Tryd.pinned (.plain (OpenSpec.upto isaTellsSpec)) isaTellsUptoCard

/-- THE SECOND FORM's CARD OF 'sledgelaw3.IsaTable'. -/
def isaTableUptoCard : Claim7 := { stood := { row := isaTableUptoRow, standIns := [], harness := (true, "e77350401547e4ec5834c0e1a5894abd3768cc4cbcb0272b95e9ed4c567d25e3"), looks := false }, kinds := [], alts := [], laidByText := true, laidKinds := [.data, .data, .data, .listed, .data], laidTests := true, laidLooks := .later }
def IsaTableUptoCardSaid : Prop := Claim7.holds Tryd.pinned (.plain (OpenSpec.upto isaTableSpec)) isaTableUptoCard
end Rows
end Go.Proofs.YtaplgcdpppcajaaDoor
