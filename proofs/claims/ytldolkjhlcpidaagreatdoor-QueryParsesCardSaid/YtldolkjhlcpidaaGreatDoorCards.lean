/-
  DERIVED. GIVEN WITH THE SEED: THE CARDS: each row of YtldolkjhlcpidaaGreatDoorRows.lean that lists a variable, with what it lists TIED to the program's text (the seventh form; the later family's looks); each row that meets fmt, with fmt's text TOLD by the authors' own Lean function (tested against real Go, not proved from fmt's source: count such statements apart). THE CARD IS WHAT COUNTS. Prove the row's statement (the work); the ties are given (YtldolkjhlcpidaaGreatDoorTie.lean); close each card by the builder's one call (the guide's Derived/Test/ToyasCard.lean, 'card_holds'). Laid BY PROGRAM, IN A SANDBOX (cutbox-door.mjs). By AI agents, Wed Nov 11 2026. No macro, syntax, notation, axiom, sorry.
-/
import Derived.Test.YtldolkjhlcpidaaGreatDoorRows
import GoSem.ClaimSeven
namespace Go.Proofs.YtldolkjhlcpidaaGreatDoor
namespace Rows

/-- THE TIED CARD OF 'needlebeamlaw22.QueryParses'. -/
def queryParsesCard : Claim7 := { stood := { row := queryParsesRow, standIns := [], harness := (true, "df3127444ec77e0c4088ce035c65c5387ee0d91899593c4ac420626ff4195254"), looks := true }, kinds := [], alts := [], laidByText := true, laidKinds := [.data, .data, .data, .data, .sentinel, .sentinel, .pinned], laidTests := true, laidLooks := .later }
def QueryParsesCardSaid : Prop := Claim7.holds Tryz.pinned (.plain (OpenSpec.ofChange queryParsesSpec)) queryParsesCard

/-- THE TIED CARD OF 'needlebeamlaw22.QueryPrints'. -/
def queryPrintsCard : Claim7 := { stood := { row := queryPrintsRow, standIns := [], harness := (true, "df3127444ec77e0c4088ce035c65c5387ee0d91899593c4ac420626ff4195254"), looks := true }, kinds := [], alts := [], laidByText := true, laidKinds := [.data, .data, .data, .data, .sentinel, .sentinel, .pinned], laidTests := true, laidLooks := .later }
def QueryPrintsCardSaid : Prop := Claim7.holds Tryz.pinned (.plain (OpenSpec.ofChange queryPrintsSpec)) queryPrintsCard

/-- THE SECOND FORM's CARD OF 'needlebeamlaw22.QueryParses'. -/
def queryParsesUptoCard : Claim7 := { stood := { row := queryParsesUptoRow, standIns := [], harness := (true, "df3127444ec77e0c4088ce035c65c5387ee0d91899593c4ac420626ff4195254"), looks := true }, kinds := [], alts := [], laidByText := true, laidKinds := [.data, .data, .data, .data, .sentinel, .sentinel, .pinned], laidTests := true, laidLooks := .later }
def QueryParsesUptoCardSaid : Prop := Claim7.holds Tryz.pinned (.plain (OpenSpec.upto queryParsesSpec)) queryParsesUptoCard

/-- THE SECOND FORM's CARD OF 'needlebeamlaw22.QueryPrints'. -/
def queryPrintsUptoCard : Claim7 := { stood := { row := queryPrintsUptoRow, standIns := [], harness := (true, "df3127444ec77e0c4088ce035c65c5387ee0d91899593c4ac420626ff4195254"), looks := true }, kinds := [], alts := [], laidByText := true, laidKinds := [.data, .data, .data, .data, .sentinel, .sentinel, .pinned], laidTests := true, laidLooks := .later }
def QueryPrintsUptoCardSaid : Prop := Claim7.holds Tryz.pinned (.plain (OpenSpec.upto queryPrintsSpec)) queryPrintsUptoCard
end Rows
end Go.Proofs.YtldolkjhlcpidaaGreatDoor
