/-
  DERIVED. GIVEN WITH THE SEED: THE CARDS: each row of YtefgfjedonchdaaDoorRows.lean that lists a variable, with what it lists TIED to the program's text (the seventh form; the later family's looks); each row that meets fmt, with fmt's text TOLD by the authors' own Lean function (tested against real Go, not proved from fmt's source: count such statements apart). THE CARD IS WHAT COUNTS. Prove the row's statement (the work); the ties are given (YtefgfjedonchdaaDoorTie.lean); close each card by the builder's one call (the guide's Derived/Test/ToyasCard.lean, 'card_holds'). Laid BY PROGRAM, IN A SANDBOX (cutbox-door.mjs). By AI agents, Wed Nov 11 2026. No macro, syntax, notation, axiom, sorry.
-/
import Derived.Test.YtefgfjedonchdaaDoorRows
import GoSem.ClaimSeven
namespace Go.Proofs.YtefgfjedonchdaaDoor
namespace Rows

/-- THE TIED CARD OF 'needlebeamlaw35.LoadRows'. -/
def loadRowsCard : Claim7 := { stood := { row := loadRowsRow, standIns := [], harness := (true, "faeabef83e999c9b2a5a95a76df10e52c557448d24d410715930997b78d43bd5"), looks := false }, kinds := [], alts := [], laidByText := true, laidKinds := [.data, .pinned], laidTests := true, laidLooks := .later }
def LoadRowsCardSaid : Prop := Claim7.holds Tryd.pinned (.plain (OpenSpec.ofChange loadRowsSpec)) loadRowsCard

/-- THE TIED CARD OF 'needlebeamlaw30.SpaceGreatest'. -/
def spaceGreatestCard : Claim7 := { stood := { row := spaceGreatestRow, standIns := [], harness := (true, "faeabef83e999c9b2a5a95a76df10e52c557448d24d410715930997b78d43bd5"), looks := false }, kinds := [], alts := [], laidByText := true, laidKinds := [.data, .pinned], laidTests := true, laidLooks := .later }
def SpaceGreatestCardSaid : Prop := Claim7.holds Tryd.pinned (.plain (OpenSpec.ofChange spaceGreatestSpec)) spaceGreatestCard

/-- THE SECOND FORM's CARD OF 'needlebeamlaw35.LoadRows'. -/
def loadRowsUptoCard : Claim7 := { stood := { row := loadRowsUptoRow, standIns := [], harness := (true, "faeabef83e999c9b2a5a95a76df10e52c557448d24d410715930997b78d43bd5"), looks := false }, kinds := [], alts := [], laidByText := true, laidKinds := [.data, .pinned], laidTests := true, laidLooks := .later }
def LoadRowsUptoCardSaid : Prop := Claim7.holds Tryd.pinned (.plain (OpenSpec.upto loadRowsSpec)) loadRowsUptoCard

/-- THE SECOND FORM's CARD OF 'needlebeamlaw30.SpaceGreatest'. -/
def spaceGreatestUptoCard : Claim7 := { stood := { row := spaceGreatestUptoRow, standIns := [], harness := (true, "faeabef83e999c9b2a5a95a76df10e52c557448d24d410715930997b78d43bd5"), looks := false }, kinds := [], alts := [], laidByText := true, laidKinds := [.data, .pinned], laidTests := true, laidLooks := .later }
def SpaceGreatestUptoCardSaid : Prop := Claim7.holds Tryd.pinned (.plain (OpenSpec.upto spaceGreatestSpec)) spaceGreatestUptoCard
end Rows
end Go.Proofs.YtefgfjedonchdaaDoor
