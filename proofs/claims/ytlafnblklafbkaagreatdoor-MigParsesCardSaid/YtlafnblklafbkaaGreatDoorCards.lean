/-
  DERIVED. GIVEN WITH THE SEED: THE CARDS: each row of YtlafnblklafbkaaGreatDoorRows.lean that lists a variable, with what it lists TIED to the program's text (the seventh form; the later family's looks); each row that meets fmt, with fmt's text TOLD by the authors' own Lean function (tested against real Go, not proved from fmt's source: count such statements apart). THE CARD IS WHAT COUNTS. Prove the row's statement (the work); the ties are given (YtlafnblklafbkaaGreatDoorTie.lean); close each card by the builder's one call (the guide's Derived/Test/ToyasCard.lean, 'card_holds'). Laid BY PROGRAM, IN A SANDBOX (cutbox-door.mjs). By AI agents, Wed Nov 11 2026. No macro, syntax, notation, axiom, sorry.
-/
import Derived.Test.YtlafnblklafbkaaGreatDoorRows
import GoSem.ClaimSeven
namespace Go.Proofs.YtlafnblklafbkaaGreatDoor
namespace Rows

/-- THE TIED CARD OF 'needlebeamlaw18.MigParses'. -/
def migParsesCard : Claim7 := { stood := { row := migParsesRow, standIns := [], harness := (true, "a91d5d9d1b9caa6bc9297ebb7bf218f472505415253821e4999edf23d3e69863"), looks := true }, kinds := [], alts := [], laidByText := true, laidKinds := [.data, .data, .data, .data, .sentinel, .sentinel, .pinned], laidTests := true, laidLooks := .later }
def MigParsesCardSaid : Prop := Claim7.holds Tryz.pinned (.plain (OpenSpec.ofChange migParsesSpec)) migParsesCard

/-- THE TIED CARD OF 'needlebeamlaw18.MigJoins'. -/
def migJoinsCard : Claim7 := { stood := { row := migJoinsRow, standIns := [], harness := (true, "a91d5d9d1b9caa6bc9297ebb7bf218f472505415253821e4999edf23d3e69863"), looks := true }, kinds := [], alts := [], laidByText := true, laidKinds := [.data, .data, .data, .data, .sentinel, .sentinel, .pinned], laidTests := true, laidLooks := .later }
def MigJoinsCardSaid : Prop := Claim7.holds Tryz.pinned (.plain (OpenSpec.ofChange migJoinsSpec)) migJoinsCard

/-- THE TIED CARD OF 'needlebeamlaw18.MigPrints'. -/
def migPrintsCard : Claim7 := { stood := { row := migPrintsRow, standIns := [], harness := (true, "a91d5d9d1b9caa6bc9297ebb7bf218f472505415253821e4999edf23d3e69863"), looks := true }, kinds := [], alts := [], laidByText := true, laidKinds := [.data, .data, .data, .data, .sentinel, .sentinel, .pinned], laidTests := true, laidLooks := .later }
def MigPrintsCardSaid : Prop := Claim7.holds Tryz.pinned (.plain (OpenSpec.ofChange migPrintsSpec)) migPrintsCard

/-- THE TIED CARD OF 'needlebeamlaw19.SoundTexts'. -/
def soundTextsCard : Claim7 := { stood := { row := soundTextsRow, standIns := [], harness := (true, "a91d5d9d1b9caa6bc9297ebb7bf218f472505415253821e4999edf23d3e69863"), looks := true }, kinds := [], alts := [], laidByText := true, laidKinds := [.data, .data, .data, .data, .sentinel, .sentinel, .pinned], laidTests := true, laidLooks := .later }
def SoundTextsCardSaid : Prop := Claim7.holds Tryz.pinned (.plain (OpenSpec.ofChange soundTextsSpec)) soundTextsCard

/-- THE SECOND FORM's CARD OF 'needlebeamlaw18.MigParses'. -/
def migParsesUptoCard : Claim7 := { stood := { row := migParsesUptoRow, standIns := [], harness := (true, "a91d5d9d1b9caa6bc9297ebb7bf218f472505415253821e4999edf23d3e69863"), looks := true }, kinds := [], alts := [], laidByText := true, laidKinds := [.data, .data, .data, .data, .sentinel, .sentinel, .pinned], laidTests := true, laidLooks := .later }
def MigParsesUptoCardSaid : Prop := Claim7.holds Tryz.pinned (.plain (OpenSpec.upto migParsesSpec)) migParsesUptoCard

/-- THE SECOND FORM's CARD OF 'needlebeamlaw18.MigJoins'. -/
def migJoinsUptoCard : Claim7 := { stood := { row := migJoinsUptoRow, standIns := [], harness := (true, "a91d5d9d1b9caa6bc9297ebb7bf218f472505415253821e4999edf23d3e69863"), looks := true }, kinds := [], alts := [], laidByText := true, laidKinds := [.data, .data, .data, .data, .sentinel, .sentinel, .pinned], laidTests := true, laidLooks := .later }
def MigJoinsUptoCardSaid : Prop := Claim7.holds Tryz.pinned (.plain (OpenSpec.upto migJoinsSpec)) migJoinsUptoCard

/-- THE SECOND FORM's CARD OF 'needlebeamlaw18.MigPrints'. -/
def migPrintsUptoCard : Claim7 := { stood := { row := migPrintsUptoRow, standIns := [], harness := (true, "a91d5d9d1b9caa6bc9297ebb7bf218f472505415253821e4999edf23d3e69863"), looks := true }, kinds := [], alts := [], laidByText := true, laidKinds := [.data, .data, .data, .data, .sentinel, .sentinel, .pinned], laidTests := true, laidLooks := .later }
def MigPrintsUptoCardSaid : Prop := Claim7.holds Tryz.pinned (.plain (OpenSpec.upto migPrintsSpec)) migPrintsUptoCard

/-- THE SECOND FORM's CARD OF 'needlebeamlaw19.SoundTexts'. -/
def soundTextsUptoCard : Claim7 := { stood := { row := soundTextsUptoRow, standIns := [], harness := (true, "a91d5d9d1b9caa6bc9297ebb7bf218f472505415253821e4999edf23d3e69863"), looks := true }, kinds := [], alts := [], laidByText := true, laidKinds := [.data, .data, .data, .data, .sentinel, .sentinel, .pinned], laidTests := true, laidLooks := .later }
def SoundTextsUptoCardSaid : Prop := Claim7.holds Tryz.pinned (.plain (OpenSpec.upto soundTextsSpec)) soundTextsUptoCard
end Rows
end Go.Proofs.YtlafnblklafbkaaGreatDoor
