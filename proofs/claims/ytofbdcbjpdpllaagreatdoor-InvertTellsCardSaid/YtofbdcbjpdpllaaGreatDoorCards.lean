/-
  DERIVED. GIVEN WITH THE SEED: THE CARDS: each row of YtofbdcbjpdpllaaGreatDoorRows.lean that lists a variable, with what it lists TIED to the program's text (the seventh form; the later family's looks); each row that meets fmt, with fmt's text TOLD by the authors' own Lean function (tested against real Go, not proved from fmt's source: count such statements apart). THE CARD IS WHAT COUNTS. Prove the row's statement (the work); the ties are given (YtofbdcbjpdpllaaGreatDoorTie.lean); close each card by the builder's one call (the guide's Derived/Test/ToyasCard.lean, 'card_holds'). Laid BY PROGRAM, IN A SANDBOX (cutbox-door.mjs). By AI agents, Wed Nov 11 2026. No macro, syntax, notation, axiom, sorry.
-/
import Derived.Test.YtofbdcbjpdpllaaGreatDoorRows
import GoSem.ClaimSeven
namespace Go.Proofs.YtofbdcbjpdpllaaGreatDoor
namespace Rows

/-- THE TIED CARD OF 'needlebeamlaw34.InvertComes'. -/
def invertComesCard : Claim7 := { stood := { row := invertComesRow, standIns := [], harness := (true, "d8f60651feeff5a1477babbb612f77f61d9c88b0cdfe930b779cfd5e74bbfc29"), looks := true }, kinds := [], alts := [], laidByText := true, laidKinds := [.data, .data, .data, .data, .sentinel, .sentinel, .pinned], laidTests := true, laidLooks := .later }
def InvertComesCardSaid : Prop := Claim7.holds Tryz.pinned (.plain (OpenSpec.ofChange invertComesSpec)) invertComesCard

/-- THE TIED CARD OF 'needlebeamlaw20.ImageNames'. -/
def imageNamesCard : Claim7 := { stood := { row := imageNamesRow, standIns := [], harness := (true, "d8f60651feeff5a1477babbb612f77f61d9c88b0cdfe930b779cfd5e74bbfc29"), looks := true }, kinds := [], alts := [], laidByText := true, laidKinds := [.data, .data, .data, .data, .sentinel, .sentinel, .pinned], laidTests := true, laidLooks := .later }
def ImageNamesCardSaid : Prop := Claim7.holds Tryz.pinned (.plain (OpenSpec.ofChange imageNamesSpec)) imageNamesCard

/-- THE TIED CARD OF 'needlebeamlaw34.InvertTells'. -/
def invertTellsCard : Claim7 := { stood := { row := invertTellsRow, standIns := [], harness := (true, "d8f60651feeff5a1477babbb612f77f61d9c88b0cdfe930b779cfd5e74bbfc29"), looks := true }, kinds := [], alts := [], laidByText := true, laidKinds := [.data, .data, .data, .data, .sentinel, .sentinel, .pinned], laidTests := true, laidLooks := .later }
def InvertTellsCardSaid : Prop := Claim7.holds Tryz.pinned (.plain (OpenSpec.ofChange invertTellsSpec)) invertTellsCard

/-- THE TIED CARD OF 'needlebeamlaw34.InvertFaithful'. -/
def invertFaithfulCard : Claim7 := { stood := { row := invertFaithfulRow, standIns := [], harness := (true, "d8f60651feeff5a1477babbb612f77f61d9c88b0cdfe930b779cfd5e74bbfc29"), looks := true }, kinds := [], alts := [], laidByText := true, laidKinds := [.data, .data, .data, .data, .sentinel, .sentinel, .pinned], laidTests := true, laidLooks := .later }
def InvertFaithfulCardSaid : Prop := Claim7.holds Tryz.pinned (.plain (OpenSpec.ofChange invertFaithfulSpec)) invertFaithfulCard

/-- THE TIED CARD OF 'needlebeamlaw21.FuseForth'. -/
def fuseForthCard : Claim7 := { stood := { row := fuseForthRow, standIns := [], harness := (true, "d8f60651feeff5a1477babbb612f77f61d9c88b0cdfe930b779cfd5e74bbfc29"), looks := true }, kinds := [], alts := [], laidByText := true, laidKinds := [.data, .data, .data, .data, .sentinel, .sentinel, .pinned], laidTests := true, laidLooks := .later }
def FuseForthCardSaid : Prop := Claim7.holds Tryz.pinned (.plain (OpenSpec.ofChange fuseForthSpec)) fuseForthCard

/-- THE SECOND FORM's CARD OF 'needlebeamlaw34.InvertComes'. -/
def invertComesUptoCard : Claim7 := { stood := { row := invertComesUptoRow, standIns := [], harness := (true, "d8f60651feeff5a1477babbb612f77f61d9c88b0cdfe930b779cfd5e74bbfc29"), looks := true }, kinds := [], alts := [], laidByText := true, laidKinds := [.data, .data, .data, .data, .sentinel, .sentinel, .pinned], laidTests := true, laidLooks := .later }
def InvertComesUptoCardSaid : Prop := Claim7.holds Tryz.pinned (.plain (OpenSpec.upto invertComesSpec)) invertComesUptoCard

/-- THE SECOND FORM's CARD OF 'needlebeamlaw20.ImageNames'. -/
def imageNamesUptoCard : Claim7 := { stood := { row := imageNamesUptoRow, standIns := [], harness := (true, "d8f60651feeff5a1477babbb612f77f61d9c88b0cdfe930b779cfd5e74bbfc29"), looks := true }, kinds := [], alts := [], laidByText := true, laidKinds := [.data, .data, .data, .data, .sentinel, .sentinel, .pinned], laidTests := true, laidLooks := .later }
def ImageNamesUptoCardSaid : Prop := Claim7.holds Tryz.pinned (.plain (OpenSpec.upto imageNamesSpec)) imageNamesUptoCard

/-- THE SECOND FORM's CARD OF 'needlebeamlaw34.InvertTells'. -/
def invertTellsUptoCard : Claim7 := { stood := { row := invertTellsUptoRow, standIns := [], harness := (true, "d8f60651feeff5a1477babbb612f77f61d9c88b0cdfe930b779cfd5e74bbfc29"), looks := true }, kinds := [], alts := [], laidByText := true, laidKinds := [.data, .data, .data, .data, .sentinel, .sentinel, .pinned], laidTests := true, laidLooks := .later }
def InvertTellsUptoCardSaid : Prop := Claim7.holds Tryz.pinned (.plain (OpenSpec.upto invertTellsSpec)) invertTellsUptoCard

/-- THE SECOND FORM's CARD OF 'needlebeamlaw34.InvertFaithful'. -/
def invertFaithfulUptoCard : Claim7 := { stood := { row := invertFaithfulUptoRow, standIns := [], harness := (true, "d8f60651feeff5a1477babbb612f77f61d9c88b0cdfe930b779cfd5e74bbfc29"), looks := true }, kinds := [], alts := [], laidByText := true, laidKinds := [.data, .data, .data, .data, .sentinel, .sentinel, .pinned], laidTests := true, laidLooks := .later }
def InvertFaithfulUptoCardSaid : Prop := Claim7.holds Tryz.pinned (.plain (OpenSpec.upto invertFaithfulSpec)) invertFaithfulUptoCard

/-- THE SECOND FORM's CARD OF 'needlebeamlaw21.FuseForth'. -/
def fuseForthUptoCard : Claim7 := { stood := { row := fuseForthUptoRow, standIns := [], harness := (true, "d8f60651feeff5a1477babbb612f77f61d9c88b0cdfe930b779cfd5e74bbfc29"), looks := true }, kinds := [], alts := [], laidByText := true, laidKinds := [.data, .data, .data, .data, .sentinel, .sentinel, .pinned], laidTests := true, laidLooks := .later }
def FuseForthUptoCardSaid : Prop := Claim7.holds Tryz.pinned (.plain (OpenSpec.upto fuseForthSpec)) fuseForthUptoCard
end Rows
end Go.Proofs.YtofbdcbjpdpllaaGreatDoor
