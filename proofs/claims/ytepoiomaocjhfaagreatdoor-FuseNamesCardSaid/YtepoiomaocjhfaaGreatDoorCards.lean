/-
  DERIVED. GIVEN WITH THE SEED: THE CARDS: each row of YtepoiomaocjhfaaGreatDoorRows.lean that lists a variable, with what it lists TIED to the program's text (the seventh form; the later family's looks); each row that meets fmt, with fmt's text TOLD by the authors' own Lean function (tested against real Go, not proved from fmt's source: count such statements apart). THE CARD IS WHAT COUNTS. Prove the row's statement (the work); the ties are given (YtepoiomaocjhfaaGreatDoorTie.lean); close each card by the builder's one call (the guide's Derived/Test/ToyasCard.lean, 'card_holds'). Laid BY PROGRAM, IN A SANDBOX (cutbox-door.mjs). By AI agents, Wed Nov 11 2026. No macro, syntax, notation, axiom, sorry.
-/
import Derived.Test.YtepoiomaocjhfaaGreatDoorRows
import GoSem.ClaimSeven
namespace Go.Proofs.YtepoiomaocjhfaaGreatDoor
namespace Rows

/-- THE TIED CARD OF 'needlebeamlaw19.SoundJoins'. -/
def soundJoinsCard : Claim7 := { stood := { row := soundJoinsRow, standIns := [], harness := (true, "ac5037c56e499833bb1ae6cc05071d1f94a30189f9531da02c4081ff1e6e956c"), looks := true }, kinds := [], alts := [], laidByText := true, laidKinds := [.data, .data, .data, .data, .sentinel, .sentinel, .pinned], laidTests := true, laidLooks := .later }
def SoundJoinsCardSaid : Prop := Claim7.holds Tryz.pinned (.plain (OpenSpec.ofChange soundJoinsSpec)) soundJoinsCard

/-- THE TIED CARD OF 'needlebeamlaw19.SoundTells'. -/
def soundTellsCard : Claim7 := { stood := { row := soundTellsRow, standIns := [], harness := (true, "ac5037c56e499833bb1ae6cc05071d1f94a30189f9531da02c4081ff1e6e956c"), looks := true }, kinds := [], alts := [], laidByText := true, laidKinds := [.data, .data, .data, .data, .sentinel, .sentinel, .pinned], laidTests := true, laidLooks := .later }
def SoundTellsCardSaid : Prop := Claim7.holds Tryz.pinned (.plain (OpenSpec.ofChange soundTellsSpec)) soundTellsCard

/-- THE TIED CARD OF 'needlebeamlaw21.FuseOver'. -/
def fuseOverCard : Claim7 := { stood := { row := fuseOverRow, standIns := [], harness := (true, "ac5037c56e499833bb1ae6cc05071d1f94a30189f9531da02c4081ff1e6e956c"), looks := true }, kinds := [], alts := [], laidByText := true, laidKinds := [.data, .data, .data, .data, .sentinel, .sentinel, .pinned], laidTests := true, laidLooks := .later }
def FuseOverCardSaid : Prop := Claim7.holds Tryz.pinned (.plain (OpenSpec.ofChange fuseOverSpec)) fuseOverCard

/-- THE TIED CARD OF 'needlebeamlaw21.FuseTells'. -/
def fuseTellsCard : Claim7 := { stood := { row := fuseTellsRow, standIns := [], harness := (true, "ac5037c56e499833bb1ae6cc05071d1f94a30189f9531da02c4081ff1e6e956c"), looks := true }, kinds := [], alts := [], laidByText := true, laidKinds := [.data, .data, .data, .data, .sentinel, .sentinel, .pinned], laidTests := true, laidLooks := .later }
def FuseTellsCardSaid : Prop := Claim7.holds Tryz.pinned (.plain (OpenSpec.ofChange fuseTellsSpec)) fuseTellsCard

/-- THE TIED CARD OF 'needlebeamlaw21.FuseNames'. -/
def fuseNamesCard : Claim7 := { stood := { row := fuseNamesRow, standIns := [], harness := (true, "ac5037c56e499833bb1ae6cc05071d1f94a30189f9531da02c4081ff1e6e956c"), looks := true }, kinds := [], alts := [], laidByText := true, laidKinds := [.data, .data, .data, .data, .sentinel, .sentinel, .pinned], laidTests := true, laidLooks := .later }
def FuseNamesCardSaid : Prop := Claim7.holds Tryz.pinned (.plain (OpenSpec.ofChange fuseNamesSpec)) fuseNamesCard

/-- THE SECOND FORM's CARD OF 'needlebeamlaw19.SoundJoins'. -/
def soundJoinsUptoCard : Claim7 := { stood := { row := soundJoinsUptoRow, standIns := [], harness := (true, "ac5037c56e499833bb1ae6cc05071d1f94a30189f9531da02c4081ff1e6e956c"), looks := true }, kinds := [], alts := [], laidByText := true, laidKinds := [.data, .data, .data, .data, .sentinel, .sentinel, .pinned], laidTests := true, laidLooks := .later }
def SoundJoinsUptoCardSaid : Prop := Claim7.holds Tryz.pinned (.plain (OpenSpec.upto soundJoinsSpec)) soundJoinsUptoCard

/-- THE SECOND FORM's CARD OF 'needlebeamlaw19.SoundTells'. -/
def soundTellsUptoCard : Claim7 := { stood := { row := soundTellsUptoRow, standIns := [], harness := (true, "ac5037c56e499833bb1ae6cc05071d1f94a30189f9531da02c4081ff1e6e956c"), looks := true }, kinds := [], alts := [], laidByText := true, laidKinds := [.data, .data, .data, .data, .sentinel, .sentinel, .pinned], laidTests := true, laidLooks := .later }
def SoundTellsUptoCardSaid : Prop := Claim7.holds Tryz.pinned (.plain (OpenSpec.upto soundTellsSpec)) soundTellsUptoCard

/-- THE SECOND FORM's CARD OF 'needlebeamlaw21.FuseOver'. -/
def fuseOverUptoCard : Claim7 := { stood := { row := fuseOverUptoRow, standIns := [], harness := (true, "ac5037c56e499833bb1ae6cc05071d1f94a30189f9531da02c4081ff1e6e956c"), looks := true }, kinds := [], alts := [], laidByText := true, laidKinds := [.data, .data, .data, .data, .sentinel, .sentinel, .pinned], laidTests := true, laidLooks := .later }
def FuseOverUptoCardSaid : Prop := Claim7.holds Tryz.pinned (.plain (OpenSpec.upto fuseOverSpec)) fuseOverUptoCard

/-- THE SECOND FORM's CARD OF 'needlebeamlaw21.FuseTells'. -/
def fuseTellsUptoCard : Claim7 := { stood := { row := fuseTellsUptoRow, standIns := [], harness := (true, "ac5037c56e499833bb1ae6cc05071d1f94a30189f9531da02c4081ff1e6e956c"), looks := true }, kinds := [], alts := [], laidByText := true, laidKinds := [.data, .data, .data, .data, .sentinel, .sentinel, .pinned], laidTests := true, laidLooks := .later }
def FuseTellsUptoCardSaid : Prop := Claim7.holds Tryz.pinned (.plain (OpenSpec.upto fuseTellsSpec)) fuseTellsUptoCard

/-- THE SECOND FORM's CARD OF 'needlebeamlaw21.FuseNames'. -/
def fuseNamesUptoCard : Claim7 := { stood := { row := fuseNamesUptoRow, standIns := [], harness := (true, "ac5037c56e499833bb1ae6cc05071d1f94a30189f9531da02c4081ff1e6e956c"), looks := true }, kinds := [], alts := [], laidByText := true, laidKinds := [.data, .data, .data, .data, .sentinel, .sentinel, .pinned], laidTests := true, laidLooks := .later }
def FuseNamesUptoCardSaid : Prop := Claim7.holds Tryz.pinned (.plain (OpenSpec.upto fuseNamesSpec)) fuseNamesUptoCard
end Rows
end Go.Proofs.YtepoiomaocjhfaaGreatDoor
