/-
  DERIVED. GIVEN WITH THE SEED: THE CARDS: each row of YtejjpdbfdmdgpaaGreatDoorRows.lean that lists a variable, with what it lists TIED to the program's text (the seventh form; the later family's looks); each row that meets fmt, with fmt's text TOLD by the authors' own Lean function (tested against real Go, not proved from fmt's source: count such statements apart). THE CARD IS WHAT COUNTS. Prove the row's statement (the work); the ties are given (YtejjpdbfdmdgpaaGreatDoorTie.lean); close each card by the builder's one call (the guide's Derived/Test/ToyasCard.lean, 'card_holds'). Laid BY PROGRAM, IN A SANDBOX (cutbox-door.mjs). By AI agents, Wed Nov 11 2026. No macro, syntax, notation, axiom, sorry.
-/
import Derived.Test.YtejjpdbfdmdgpaaGreatDoorRows
import GoSem.ClaimSeven
namespace Go.Proofs.YtejjpdbfdmdgpaaGreatDoor
namespace Rows

/-- THE TIED CARD OF 'needlebeamlaw20.ImageBack'. -/
def imageBackCard : Claim7 := { stood := { row := imageBackRow, standIns := [], harness := (true, "fdf172d2fecc838c0793489de43a445e838486d05b7f0421528c37b97cc6fbaa"), looks := true }, kinds := [], alts := [], laidByText := true, laidKinds := [.data, .data, .data, .data, .sentinel, .sentinel, .pinned], laidTests := true, laidLooks := .later }
def ImageBackCardSaid : Prop := Claim7.holds Tryz.pinned (.plain (OpenSpec.ofChange imageBackSpec)) imageBackCard

/-- THE TIED CARD OF 'needlebeamlaw20.ImageForth'. -/
def imageForthCard : Claim7 := { stood := { row := imageForthRow, standIns := [], harness := (true, "fdf172d2fecc838c0793489de43a445e838486d05b7f0421528c37b97cc6fbaa"), looks := true }, kinds := [], alts := [], laidByText := true, laidKinds := [.data, .data, .data, .data, .sentinel, .sentinel, .pinned], laidTests := true, laidLooks := .later }
def ImageForthCardSaid : Prop := Claim7.holds Tryz.pinned (.plain (OpenSpec.ofChange imageForthSpec)) imageForthCard

/-- THE SECOND FORM's CARD OF 'needlebeamlaw20.ImageBack'. -/
def imageBackUptoCard : Claim7 := { stood := { row := imageBackUptoRow, standIns := [], harness := (true, "fdf172d2fecc838c0793489de43a445e838486d05b7f0421528c37b97cc6fbaa"), looks := true }, kinds := [], alts := [], laidByText := true, laidKinds := [.data, .data, .data, .data, .sentinel, .sentinel, .pinned], laidTests := true, laidLooks := .later }
def ImageBackUptoCardSaid : Prop := Claim7.holds Tryz.pinned (.plain (OpenSpec.upto imageBackSpec)) imageBackUptoCard

/-- THE SECOND FORM's CARD OF 'needlebeamlaw20.ImageForth'. -/
def imageForthUptoCard : Claim7 := { stood := { row := imageForthUptoRow, standIns := [], harness := (true, "fdf172d2fecc838c0793489de43a445e838486d05b7f0421528c37b97cc6fbaa"), looks := true }, kinds := [], alts := [], laidByText := true, laidKinds := [.data, .data, .data, .data, .sentinel, .sentinel, .pinned], laidTests := true, laidLooks := .later }
def ImageForthUptoCardSaid : Prop := Claim7.holds Tryz.pinned (.plain (OpenSpec.upto imageForthSpec)) imageForthUptoCard
end Rows
end Go.Proofs.YtejjpdbfdmdgpaaGreatDoor
