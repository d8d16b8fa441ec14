/-
  DERIVED. GIVEN WITH THE SEED: THE CARDS: each row of YtcmnamfkljlglaaGreatDoorRows.lean that lists a variable, with what it lists TIED to the program's text (the seventh form; the later family's looks); each row that meets fmt, with fmt's text TOLD by the authors' own Lean function (tested against real Go, not proved from fmt's source: count such statements apart). THE CARD IS WHAT COUNTS. Prove the row's statement (the work); the ties are given (YtcmnamfkljlglaaGreatDoorTie.lean); close each card by the builder's one call (the guide's Derived/Test/ToyasCard.lean, 'card_holds'). Laid BY PROGRAM, IN A SANDBOX (cutbox-door.mjs). By AI agents, Wed Nov 11 2026. No macro, syntax, notation, axiom, sorry.
-/
import Derived.Test.YtcmnamfkljlglaaGreatDoorRows
import GoSem.ClaimSeven
namespace Go.Proofs.YtcmnamfkljlglaaGreatDoor
namespace Rows

/-- THE TIED CARD OF 'needlebeamlaw25.BothAgain'. -/
def bothAgainCard : Claim7 := { stood := { row := bothAgainRow, standIns := [], harness := (true, "c5e86d8f3deffe762c99f39466fcdfbd22c65f86003c5f489db9d3babbb689fa"), looks := true }, kinds := [], alts := [], laidByText := true, laidKinds := [.data, .data, .data, .data, .sentinel, .sentinel, .pinned], laidTests := true, laidLooks := .later }
def BothAgainCardSaid : Prop := Claim7.holds Tryz.pinned (.plain (OpenSpec.ofChange bothAgainSpec)) bothAgainCard

/-- THE TIED CARD OF 'needlebeamlaw25.BothWrites'. -/
def bothWritesCard : Claim7 := { stood := { row := bothWritesRow, standIns := [], harness := (true, "c5e86d8f3deffe762c99f39466fcdfbd22c65f86003c5f489db9d3babbb689fa"), looks := true }, kinds := [], alts := [], laidByText := true, laidKinds := [.data, .data, .data, .data, .sentinel, .sentinel, .pinned], laidTests := true, laidLooks := .later }
def BothWritesCardSaid : Prop := Claim7.holds Tryz.pinned (.plain (OpenSpec.ofChange bothWritesSpec)) bothWritesCard

/-- THE SECOND FORM's CARD OF 'needlebeamlaw25.BothAgain'. -/
def bothAgainUptoCard : Claim7 := { stood := { row := bothAgainUptoRow, standIns := [], harness := (true, "c5e86d8f3deffe762c99f39466fcdfbd22c65f86003c5f489db9d3babbb689fa"), looks := true }, kinds := [], alts := [], laidByText := true, laidKinds := [.data, .data, .data, .data, .sentinel, .sentinel, .pinned], laidTests := true, laidLooks := .later }
def BothAgainUptoCardSaid : Prop := Claim7.holds Tryz.pinned (.plain (OpenSpec.upto bothAgainSpec)) bothAgainUptoCard

/-- THE SECOND FORM's CARD OF 'needlebeamlaw25.BothWrites'. -/
def bothWritesUptoCard : Claim7 := { stood := { row := bothWritesUptoRow, standIns := [], harness := (true, "c5e86d8f3deffe762c99f39466fcdfbd22c65f86003c5f489db9d3babbb689fa"), looks := true }, kinds := [], alts := [], laidByText := true, laidKinds := [.data, .data, .data, .data, .sentinel, .sentinel, .pinned], laidTests := true, laidLooks := .later }
def BothWritesUptoCardSaid : Prop := Claim7.holds Tryz.pinned (.plain (OpenSpec.upto bothWritesSpec)) bothWritesUptoCard
end Rows
end Go.Proofs.YtcmnamfkljlglaaGreatDoor
