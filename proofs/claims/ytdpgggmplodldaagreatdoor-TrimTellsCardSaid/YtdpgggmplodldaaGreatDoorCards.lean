/-
  DERIVED. GIVEN WITH THE SEED: THE CARDS: each row of YtdpgggmplodldaaGreatDoorRows.lean that lists a variable, with what it lists TIED to the program's text (the seventh form; the later family's looks); each row that meets fmt, with fmt's text TOLD by the authors' own Lean function (tested against real Go, not proved from fmt's source: count such statements apart). THE CARD IS WHAT COUNTS. Prove the row's statement (the work); the ties are given (YtdpgggmplodldaaGreatDoorTie.lean); close each card by the builder's one call (the guide's Derived/Test/ToyasCard.lean, 'card_holds'). Laid BY PROGRAM, IN A SANDBOX (cutbox-door.mjs). By AI agents, Wed Nov 11 2026. No macro, syntax, notation, axiom, sorry.
-/
import Derived.Test.YtdpgggmplodldaaGreatDoorRows
import GoSem.ClaimSeven
namespace Go.Proofs.YtdpgggmplodldaaGreatDoor
namespace Rows

/-- THE TIED CARD OF 'needlebeamlaw16.EvalTells'. -/
def evalTellsCard : Claim7 := { stood := { row := evalTellsRow, standIns := [], harness := (true, "73e0d09be4194df98dd3000ac3295193d0ede4b6a6369bdd34f984ad59f5cd27"), looks := true }, kinds := [], alts := [], laidByText := true, laidKinds := [.data, .data, .data, .data, .sentinel, .sentinel, .pinned], laidTests := true, laidLooks := .later }
def EvalTellsCardSaid : Prop := Claim7.holds Tryz.pinned (.plain (OpenSpec.ofChange evalTellsSpec)) evalTellsCard

/-- THE TIED CARD OF 'needlebeamlaw33.TrimKeeps'. -/
def trimKeepsCard : Claim7 := { stood := { row := trimKeepsRow, standIns := [], harness := (true, "73e0d09be4194df98dd3000ac3295193d0ede4b6a6369bdd34f984ad59f5cd27"), looks := true }, kinds := [], alts := [], laidByText := true, laidKinds := [.data, .data, .data, .data, .sentinel, .sentinel, .pinned], laidTests := true, laidLooks := .later }
def TrimKeepsCardSaid : Prop := Claim7.holds Tryz.pinned (.plain (OpenSpec.ofChange trimKeepsSpec)) trimKeepsCard

/-- THE TIED CARD OF 'needlebeamlaw33.TrimTells'. -/
def trimTellsCard : Claim7 := { stood := { row := trimTellsRow, standIns := [], harness := (true, "73e0d09be4194df98dd3000ac3295193d0ede4b6a6369bdd34f984ad59f5cd27"), looks := true }, kinds := [], alts := [], laidByText := true, laidKinds := [.data, .data, .data, .data, .sentinel, .sentinel, .pinned], laidTests := true, laidLooks := .later }
def TrimTellsCardSaid : Prop := Claim7.holds Tryz.pinned (.plain (OpenSpec.ofChange trimTellsSpec)) trimTellsCard

/-- THE SECOND FORM's CARD OF 'needlebeamlaw16.EvalTells'. -/
def evalTellsUptoCard : Claim7 := { stood := { row := evalTellsUptoRow, standIns := [], harness := (true, "73e0d09be4194df98dd3000ac3295193d0ede4b6a6369bdd34f984ad59f5cd27"), looks := true }, kinds := [], alts := [], laidByText := true, laidKinds := [.data, .data, .data, .data, .sentinel, .sentinel, .pinned], laidTests := true, laidLooks := .later }
def EvalTellsUptoCardSaid : Prop := Claim7.holds Tryz.pinned (.plain (OpenSpec.upto evalTellsSpec)) evalTellsUptoCard

/-- THE SECOND FORM's CARD OF 'needlebeamlaw33.TrimKeeps'. -/
def trimKeepsUptoCard : Claim7 := { stood := { row := trimKeepsUptoRow, standIns := [], harness := (true, "73e0d09be4194df98dd3000ac3295193d0ede4b6a6369bdd34f984ad59f5cd27"), looks := true }, kinds := [], alts := [], laidByText := true, laidKinds := [.data, .data, .data, .data, .sentinel, .sentinel, .pinned], laidTests := true, laidLooks := .later }
def TrimKeepsUptoCardSaid : Prop := Claim7.holds Tryz.pinned (.plain (OpenSpec.upto trimKeepsSpec)) trimKeepsUptoCard

/-- THE SECOND FORM's CARD OF 'needlebeamlaw33.TrimTells'. -/
def trimTellsUptoCard : Claim7 := { stood := { row := trimTellsUptoRow, standIns := [], harness := (true, "73e0d09be4194df98dd3000ac3295193d0ede4b6a6369bdd34f984ad59f5cd27"), looks := true }, kinds := [], alts := [], laidByText := true, laidKinds := [.data, .data, .data, .data, .sentinel, .sentinel, .pinned], laidTests := true, laidLooks := .later }
def TrimTellsUptoCardSaid : Prop := Claim7.holds Tryz.pinned (.plain (OpenSpec.upto trimTellsSpec)) trimTellsUptoCard
end Rows
end Go.Proofs.YtdpgggmplodldaaGreatDoor
