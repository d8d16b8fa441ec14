/-
  DERIVED. GIVEN WITH THE SEED: THE CARDS: each row of YtfngkblpcigciaaGreatDoorRows.lean that lists a variable, with what it lists TIED to the program's text (the seventh form; the later family's looks); each row that meets fmt, with fmt's text TOLD by the authors' own Lean function (tested against real Go, not proved from fmt's source: count such statements apart). THE CARD IS WHAT COUNTS. Prove the row's statement (the work); the ties are given (YtfngkblpcigciaaGreatDoorTie.lean); close each card by the builder's one call (the guide's Derived/Test/ToyasCard.lean, 'card_holds'). Laid BY PROGRAM, IN A SANDBOX (cutbox-door.mjs). By AI agents, Wed Nov 11 2026. No macro, syntax, notation, axiom, sorry.
-/
import Derived.Test.YtfngkblpcigciaaGreatDoorRows
import GoSem.ClaimSeven
namespace Go.Proofs.YtfngkblpcigciaaGreatDoor
namespace Rows

/-- THE TIED CARD OF 'needlebeamlaw22.QueryRuns'. -/
def queryRunsCard : Claim7 := { stood := { row := queryRunsRow, standIns := [], harness := (true, "6a91f5fdf9aa79cd541c41cd35828a63341de517475545be761bf01e7ce1ce03"), looks := true }, kinds := [], alts := [], laidByText := true, laidKinds := [.data, .data, .data, .data, .sentinel, .sentinel, .pinned], laidTests := true, laidLooks := .later }
def QueryRunsCardSaid : Prop := Claim7.holds Tryz.pinned (.plain (OpenSpec.ofChange queryRunsSpec)) queryRunsCard

/-- THE TIED CARD OF 'needlebeamlaw22.QueryLimits'. -/
def queryLimitsCard : Claim7 := { stood := { row := queryLimitsRow, standIns := [], harness := (true, "6a91f5fdf9aa79cd541c41cd35828a63341de517475545be761bf01e7ce1ce03"), looks := true }, kinds := [], alts := [], laidByText := true, laidKinds := [.data, .data, .data, .data, .sentinel, .sentinel, .pinned], laidTests := true, laidLooks := .later }
def QueryLimitsCardSaid : Prop := Claim7.holds Tryz.pinned (.plain (OpenSpec.ofChange queryLimitsSpec)) queryLimitsCard

/-- THE TIED CARD OF 'needlebeamlaw22.QueryPicks'. -/
def queryPicksCard : Claim7 := { stood := { row := queryPicksRow, standIns := [], harness := (true, "6a91f5fdf9aa79cd541c41cd35828a63341de517475545be761bf01e7ce1ce03"), looks := true }, kinds := [], alts := [], laidByText := true, laidKinds := [.data, .data, .data, .data, .sentinel, .sentinel, .pinned], laidTests := true, laidLooks := .later }
def QueryPicksCardSaid : Prop := Claim7.holds Tryz.pinned (.plain (OpenSpec.ofChange queryPicksSpec)) queryPicksCard

/-- THE SECOND FORM's CARD OF 'needlebeamlaw22.QueryRuns'. -/
def queryRunsUptoCard : Claim7 := { stood := { row := queryRunsUptoRow, standIns := [], harness := (true, "6a91f5fdf9aa79cd541c41cd35828a63341de517475545be761bf01e7ce1ce03"), looks := true }, kinds := [], alts := [], laidByText := true, laidKinds := [.data, .data, .data, .data, .sentinel, .sentinel, .pinned], laidTests := true, laidLooks := .later }
def QueryRunsUptoCardSaid : Prop := Claim7.holds Tryz.pinned (.plain (OpenSpec.upto queryRunsSpec)) queryRunsUptoCard

/-- THE SECOND FORM's CARD OF 'needlebeamlaw22.QueryLimits'. -/
def queryLimitsUptoCard : Claim7 := { stood := { row := queryLimitsUptoRow, standIns := [], harness := (true, "6a91f5fdf9aa79cd541c41cd35828a63341de517475545be761bf01e7ce1ce03"), looks := true }, kinds := [], alts := [], laidByText := true, laidKinds := [.data, .data, .data, .data, .sentinel, .sentinel, .pinned], laidTests := true, laidLooks := .later }
def QueryLimitsUptoCardSaid : Prop := Claim7.holds Tryz.pinned (.plain (OpenSpec.upto queryLimitsSpec)) queryLimitsUptoCard

/-- THE SECOND FORM's CARD OF 'needlebeamlaw22.QueryPicks'. -/
def queryPicksUptoCard : Claim7 := { stood := { row := queryPicksUptoRow, standIns := [], harness := (true, "6a91f5fdf9aa79cd541c41cd35828a63341de517475545be761bf01e7ce1ce03"), looks := true }, kinds := [], alts := [], laidByText := true, laidKinds := [.data, .data, .data, .data, .sentinel, .sentinel, .pinned], laidTests := true, laidLooks := .later }
def QueryPicksUptoCardSaid : Prop := Claim7.holds Tryz.pinned (.plain (OpenSpec.upto queryPicksSpec)) queryPicksUptoCard
end Rows
end Go.Proofs.YtfngkblpcigciaaGreatDoor
