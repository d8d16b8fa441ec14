/-
  DERIVED. GIVEN WITH THE SEED: THE CARDS: each row of YtbiheojgmikfpaaGreatDoorRows.lean that lists a variable, with what it lists TIED to the program's text (the seventh form; the later family's looks); each row that meets fmt, with fmt's text TOLD by the authors' own Lean function (tested against real Go, not proved from fmt's source: count such statements apart). THE CARD IS WHAT COUNTS. Prove the row's statement (the work); the ties are given (YtbiheojgmikfpaaGreatDoorTie.lean); close each card by the builder's one call (the guide's Derived/Test/ToyasCard.lean, 'card_holds'). Laid BY PROGRAM, IN A SANDBOX (cutbox-door.mjs). By AI agents, Wed Nov 11 2026. No macro, syntax, notation, axiom, sorry.
-/
import Derived.Test.YtbiheojgmikfpaaGreatDoorRows
import GoSem.ClaimSeven
namespace Go.Proofs.YtbiheojgmikfpaaGreatDoor
namespace Rows

/-- THE TIED CARD OF 'needlebeamlaw27.PlanTells'. -/
def planTellsCard : Claim7 := { stood := { row := planTellsRow, standIns := [], harness := (true, "5608833e46918d6ae612a45e87dc7c82bb83cd36b2199dfc18233b7f4be8d532"), looks := false }, kinds := [], alts := [], laidByText := true, laidKinds := [.data, .data, .data, .data, .pinned], laidTests := true, laidLooks := .later }
def PlanTellsCardSaid : Prop := Claim7.holds Tryz.pinned (.plain (OpenSpec.ofChange planTellsSpec)) planTellsCard

/-- THE TIED CARD OF 'needlebeamlaw27.PlanLines'. -/
def planLinesCard : Claim7 := { stood := { row := planLinesRow, standIns := [], harness := (true, "5608833e46918d6ae612a45e87dc7c82bb83cd36b2199dfc18233b7f4be8d532"), looks := false }, kinds := [], alts := [], laidByText := true, laidKinds := [.data, .data, .data, .data, .pinned], laidTests := true, laidLooks := .later }
def PlanLinesCardSaid : Prop := Claim7.holds Tryz.pinned (.plain (OpenSpec.ofChange planLinesSpec)) planLinesCard

/-- THE SECOND FORM's CARD OF 'needlebeamlaw27.PlanTells'. -/
def planTellsUptoCard : Claim7 := { stood := { row := planTellsUptoRow, standIns := [], harness := (true, "5608833e46918d6ae612a45e87dc7c82bb83cd36b2199dfc18233b7f4be8d532"), looks := false }, kinds := [], alts := [], laidByText := true, laidKinds := [.data, .data, .data, .data, .pinned], laidTests := true, laidLooks := .later }
def PlanTellsUptoCardSaid : Prop := Claim7.holds Tryz.pinned (.plain (OpenSpec.upto planTellsSpec)) planTellsUptoCard

/-- THE SECOND FORM's CARD OF 'needlebeamlaw27.PlanLines'. -/
def planLinesUptoCard : Claim7 := { stood := { row := planLinesUptoRow, standIns := [], harness := (true, "5608833e46918d6ae612a45e87dc7c82bb83cd36b2199dfc18233b7f4be8d532"), looks := false }, kinds := [], alts := [], laidByText := true, laidKinds := [.data, .data, .data, .data, .pinned], laidTests := true, laidLooks := .later }
def PlanLinesUptoCardSaid : Prop := Claim7.holds Tryz.pinned (.plain (OpenSpec.upto planLinesSpec)) planLinesUptoCard
end Rows
end Go.Proofs.YtbiheojgmikfpaaGreatDoor
