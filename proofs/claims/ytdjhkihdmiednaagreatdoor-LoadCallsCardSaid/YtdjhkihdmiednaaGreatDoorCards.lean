/-
  DERIVED. GIVEN WITH THE SEED: THE CARDS: each row of YtdjhkihdmiednaaGreatDoorRows.lean that lists a variable, with what it lists TIED to the program's text (the seventh form; the later family's looks); each row that meets fmt, with fmt's text TOLD by the authors' own Lean function (tested against real Go, not proved from fmt's source: count such statements apart). THE CARD IS WHAT COUNTS. Prove the row's statement (the work); the ties are given (YtdjhkihdmiednaaGreatDoorTie.lean); close each card by the builder's one call (the guide's Derived/Test/ToyasCard.lean, 'card_holds'). Laid BY PROGRAM, IN A SANDBOX (cutbox-door.mjs). By AI agents, Wed Nov 11 2026. No macro, syntax, notation, axiom, sorry.
-/
import Derived.Test.YtdjhkihdmiednaaGreatDoorRows
import GoSem.ClaimSeven
namespace Go.Proofs.YtdjhkihdmiednaaGreatDoor
namespace Rows

/-- THE TIED CARD OF 'needlebeamlaw35.LoadCalls'. -/
def loadCallsCard : Claim7 := { stood := { row := loadCallsRow, standIns := [], harness := (true, "ed091d7dd437d6006362f95020240142a3bf40f058bf47407880a2bb29458b26"), looks := true }, kinds := [], alts := [], laidByText := true, laidKinds := [.data, .data, .data, .data, .sentinel, .sentinel, .pinned], laidTests := true, laidLooks := .later }
def LoadCallsCardSaid : Prop := Claim7.holds Tryz.pinned (.plain (OpenSpec.ofChange loadCallsSpec)) loadCallsCard

/-- THE SECOND FORM's CARD OF 'needlebeamlaw35.LoadCalls'. -/
def loadCallsUptoCard : Claim7 := { stood := { row := loadCallsUptoRow, standIns := [], harness := (true, "ed091d7dd437d6006362f95020240142a3bf40f058bf47407880a2bb29458b26"), looks := true }, kinds := [], alts := [], laidByText := true, laidKinds := [.data, .data, .data, .data, .sentinel, .sentinel, .pinned], laidTests := true, laidLooks := .later }
def LoadCallsUptoCardSaid : Prop := Claim7.holds Tryz.pinned (.plain (OpenSpec.upto loadCallsSpec)) loadCallsUptoCard
end Rows
end Go.Proofs.YtdjhkihdmiednaaGreatDoor
