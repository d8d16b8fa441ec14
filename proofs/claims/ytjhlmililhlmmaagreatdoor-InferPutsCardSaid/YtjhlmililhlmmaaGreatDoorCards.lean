/-
  DERIVED. GIVEN WITH THE SEED: THE CARDS: each row of YtjhlmililhlmmaaGreatDoorRows.lean that lists a variable, with what it lists TIED to the program's text (the seventh form; the later family's looks); each row that meets fmt, with fmt's text TOLD by the authors' own Lean function (tested against real Go, not proved from fmt's source: count such statements apart). THE CARD IS WHAT COUNTS. Prove the row's statement (the work); the ties are given (YtjhlmililhlmmaaGreatDoorTie.lean); close each card by the builder's one call (the guide's Derived/Test/ToyasCard.lean, 'card_holds'). Laid BY PROGRAM, IN A SANDBOX (cutbox-door.mjs). By AI agents, Wed Nov 11 2026. No macro, syntax, notation, axiom, sorry.
-/
import Derived.Test.YtjhlmililhlmmaaGreatDoorRows
import GoSem.ClaimSeven
namespace Go.Proofs.YtjhlmililhlmmaaGreatDoor
namespace Rows

/-- THE TIED CARD OF 'needlebeamlaw15.InferWider'. -/
def inferWiderCard : Claim7 := { stood := { row := inferWiderRow, standIns := [], harness := (true, "80737916c63c53e426a867065b29385404a35ddf521bbf49b205ef2cf6431335"), looks := true }, kinds := [], alts := [], laidByText := true, laidKinds := [.data, .data, .data, .data, .sentinel, .sentinel, .pinned], laidTests := true, laidLooks := .later }
def InferWiderCardSaid : Prop := Claim7.holds Tryz.pinned (.plain (OpenSpec.ofChange inferWiderSpec)) inferWiderCard

/-- THE TIED CARD OF 'needlebeamlaw15.InferPuts'. -/
def inferPutsCard : Claim7 := { stood := { row := inferPutsRow, standIns := [], harness := (true, "80737916c63c53e426a867065b29385404a35ddf521bbf49b205ef2cf6431335"), looks := true }, kinds := [], alts := [], laidByText := true, laidKinds := [.data, .data, .data, .data, .sentinel, .sentinel, .pinned], laidTests := true, laidLooks := .later }
def InferPutsCardSaid : Prop := Claim7.holds Tryz.pinned (.plain (OpenSpec.ofChange inferPutsSpec)) inferPutsCard

/-- THE SECOND FORM's CARD OF 'needlebeamlaw15.InferWider'. -/
def inferWiderUptoCard : Claim7 := { stood := { row := inferWiderUptoRow, standIns := [], harness := (true, "80737916c63c53e426a867065b29385404a35ddf521bbf49b205ef2cf6431335"), looks := true }, kinds := [], alts := [], laidByText := true, laidKinds := [.data, .data, .data, .data, .sentinel, .sentinel, .pinned], laidTests := true, laidLooks := .later }
def InferWiderUptoCardSaid : Prop := Claim7.holds Tryz.pinned (.plain (OpenSpec.upto inferWiderSpec)) inferWiderUptoCard

/-- THE SECOND FORM's CARD OF 'needlebeamlaw15.InferPuts'. -/
def inferPutsUptoCard : Claim7 := { stood := { row := inferPutsUptoRow, standIns := [], harness := (true, "80737916c63c53e426a867065b29385404a35ddf521bbf49b205ef2cf6431335"), looks := true }, kinds := [], alts := [], laidByText := true, laidKinds := [.data, .data, .data, .data, .sentinel, .sentinel, .pinned], laidTests := true, laidLooks := .later }
def InferPutsUptoCardSaid : Prop := Claim7.holds Tryz.pinned (.plain (OpenSpec.upto inferPutsSpec)) inferPutsUptoCard
end Rows
end Go.Proofs.YtjhlmililhlmmaaGreatDoor
