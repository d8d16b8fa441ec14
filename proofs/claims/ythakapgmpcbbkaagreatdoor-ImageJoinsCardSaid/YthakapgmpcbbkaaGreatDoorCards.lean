/-
  DERIVED. GIVEN WITH THE SEED: THE CARDS: each row of YthakapgmpcbbkaaGreatDoorRows.lean that lists a variable, with what it lists TIED to the program's text (the seventh form; the later family's looks); each row that meets fmt, with fmt's text TOLD by the authors' own Lean function (tested against real Go, not proved from fmt's source: count such statements apart). THE CARD IS WHAT COUNTS. Prove the row's statement (the work); the ties are given (YthakapgmpcbbkaaGreatDoorTie.lean); close each card by the builder's one call (the guide's Derived/Test/ToyasCard.lean, 'card_holds'). Laid BY PROGRAM, IN A SANDBOX (cutbox-door.mjs). By AI agents, Wed Nov 11 2026. No macro, syntax, notation, axiom, sorry.
-/
import Derived.Test.YthakapgmpcbbkaaGreatDoorRows
import GoSem.ClaimSeven
namespace Go.Proofs.YthakapgmpcbbkaaGreatDoor
namespace Rows

/-- THE TIED CARD OF 'needlebeamlaw26.PhaseWays'. -/
def phaseWaysCard : Claim7 := { stood := { row := phaseWaysRow, standIns := [], harness := (true, "51eb8bb014fcf58993f640d6117ce365b6217608512dbcee9243c53e79d3fdf7"), looks := true }, kinds := [], alts := [], laidByText := true, laidKinds := [.data, .data, .data, .data, .sentinel, .sentinel, .pinned], laidTests := true, laidLooks := .later }
def PhaseWaysCardSaid : Prop := Claim7.holds Tryz.pinned (.plain (OpenSpec.ofChange phaseWaysSpec)) phaseWaysCard

/-- THE TIED CARD OF 'needlebeamlaw20.ImageJoins'. -/
def imageJoinsCard : Claim7 := { stood := { row := imageJoinsRow, standIns := [], harness := (true, "51eb8bb014fcf58993f640d6117ce365b6217608512dbcee9243c53e79d3fdf7"), looks := true }, kinds := [], alts := [], laidByText := true, laidKinds := [.data, .data, .data, .data, .sentinel, .sentinel, .pinned], laidTests := true, laidLooks := .later }
def ImageJoinsCardSaid : Prop := Claim7.holds Tryz.pinned (.plain (OpenSpec.ofChange imageJoinsSpec)) imageJoinsCard

/-- THE TIED CARD OF 'needlebeamlaw20.ImageOld'. -/
def imageOldCard : Claim7 := { stood := { row := imageOldRow, standIns := [], harness := (true, "51eb8bb014fcf58993f640d6117ce365b6217608512dbcee9243c53e79d3fdf7"), looks := true }, kinds := [], alts := [], laidByText := true, laidKinds := [.data, .data, .data, .data, .sentinel, .sentinel, .pinned], laidTests := true, laidLooks := .later }
def ImageOldCardSaid : Prop := Claim7.holds Tryz.pinned (.plain (OpenSpec.ofChange imageOldSpec)) imageOldCard

/-- THE SECOND FORM's CARD OF 'needlebeamlaw26.PhaseWays'. -/
def phaseWaysUptoCard : Claim7 := { stood := { row := phaseWaysUptoRow, standIns := [], harness := (true, "51eb8bb014fcf58993f640d6117ce365b6217608512dbcee9243c53e79d3fdf7"), looks := true }, kinds := [], alts := [], laidByText := true, laidKinds := [.data, .data, .data, .data, .sentinel, .sentinel, .pinned], laidTests := true, laidLooks := .later }
def PhaseWaysUptoCardSaid : Prop := Claim7.holds Tryz.pinned (.plain (OpenSpec.upto phaseWaysSpec)) phaseWaysUptoCard

/-- THE SECOND FORM's CARD OF 'needlebeamlaw20.ImageJoins'. -/
def imageJoinsUptoCard : Claim7 := { stood := { row := imageJoinsUptoRow, standIns := [], harness := (true, "51eb8bb014fcf58993f640d6117ce365b6217608512dbcee9243c53e79d3fdf7"), looks := true }, kinds := [], alts := [], laidByText := true, laidKinds := [.data, .data, .data, .data, .sentinel, .sentinel, .pinned], laidTests := true, laidLooks := .later }
def ImageJoinsUptoCardSaid : Prop := Claim7.holds Tryz.pinned (.plain (OpenSpec.upto imageJoinsSpec)) imageJoinsUptoCard

/-- THE SECOND FORM's CARD OF 'needlebeamlaw20.ImageOld'. -/
def imageOldUptoCard : Claim7 := { stood := { row := imageOldUptoRow, standIns := [], harness := (true, "51eb8bb014fcf58993f640d6117ce365b6217608512dbcee9243c53e79d3fdf7"), looks := true }, kinds := [], alts := [], laidByText := true, laidKinds := [.data, .data, .data, .data, .sentinel, .sentinel, .pinned], laidTests := true, laidLooks := .later }
def ImageOldUptoCardSaid : Prop := Claim7.holds Tryz.pinned (.plain (OpenSpec.upto imageOldSpec)) imageOldUptoCard
end Rows
end Go.Proofs.YthakapgmpcbbkaaGreatDoor
