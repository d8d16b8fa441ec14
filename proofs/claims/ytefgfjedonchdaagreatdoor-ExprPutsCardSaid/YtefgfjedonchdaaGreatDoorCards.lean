/-
  DERIVED. GIVEN WITH THE SEED: THE CARDS: each row of YtefgfjedonchdaaGreatDoorRows.lean that lists a variable, with what it lists TIED to the program's text (the seventh form; the later family's looks); each row that meets fmt, with fmt's text TOLD by the authors' own Lean function (tested against real Go, not proved from fmt's source: count such statements apart). THE CARD IS WHAT COUNTS. Prove the row's statement (the work); the ties are given (YtefgfjedonchdaaGreatDoorTie.lean); close each card by the builder's one call (the guide's Derived/Test/ToyasCard.lean, 'card_holds'). Laid BY PROGRAM, IN A SANDBOX (cutbox-door.mjs). By AI agents, Wed Nov 11 2026. No macro, syntax, notation, axiom, sorry.
-/
import Derived.Test.YtefgfjedonchdaaGreatDoorRows
import GoSem.ClaimSeven
namespace Go.Proofs.YtefgfjedonchdaaGreatDoor
namespace Rows

/-- THE TIED CARD OF 'needlebeamlaw12.LexNames'. -/
def lexNamesCard : Claim7 := { stood := { row := lexNamesRow, standIns := [], harness := (true, "f53528ad0b9735fedc8e375b4f776bb689f930f56b13a22007bb22b36d8d2b77"), looks := true }, kinds := [], alts := [], laidByText := true, laidKinds := [.data, .data, .data, .data, .sentinel, .sentinel, .pinned], laidTests := true, laidLooks := .later }
def LexNamesCardSaid : Prop := Claim7.holds Tryz.pinned (.plain (OpenSpec.ofChange lexNamesSpec)) lexNamesCard

/-- THE TIED CARD OF 'needlebeamlaw12.LexGaps'. -/
def lexGapsCard : Claim7 := { stood := { row := lexGapsRow, standIns := [], harness := (true, "f53528ad0b9735fedc8e375b4f776bb689f930f56b13a22007bb22b36d8d2b77"), looks := true }, kinds := [], alts := [], laidByText := true, laidKinds := [.data, .data, .data, .data, .sentinel, .sentinel, .pinned], laidTests := true, laidLooks := .later }
def LexGapsCardSaid : Prop := Claim7.holds Tryz.pinned (.plain (OpenSpec.ofChange lexGapsSpec)) lexGapsCard

/-- THE TIED CARD OF 'needlebeamlaw12.LexTwice'. -/
def lexTwiceCard : Claim7 := { stood := { row := lexTwiceRow, standIns := [], harness := (true, "f53528ad0b9735fedc8e375b4f776bb689f930f56b13a22007bb22b36d8d2b77"), looks := true }, kinds := [], alts := [], laidByText := true, laidKinds := [.data, .data, .data, .data, .sentinel, .sentinel, .pinned], laidTests := true, laidLooks := .later }
def LexTwiceCardSaid : Prop := Claim7.holds Tryz.pinned (.plain (OpenSpec.ofChange lexTwiceSpec)) lexTwiceCard

/-- THE TIED CARD OF 'needlebeamlaw17.SchemaPrints'. -/
def schemaPrintsCard : Claim7 := { stood := { row := schemaPrintsRow, standIns := [], harness := (true, "f53528ad0b9735fedc8e375b4f776bb689f930f56b13a22007bb22b36d8d2b77"), looks := true }, kinds := [], alts := [], laidByText := true, laidKinds := [.data, .data, .data, .data, .sentinel, .sentinel, .pinned], laidTests := true, laidLooks := .later }
def SchemaPrintsCardSaid : Prop := Claim7.holds Tryz.pinned (.plain (OpenSpec.ofChange schemaPrintsSpec)) schemaPrintsCard

/-- THE TIED CARD OF 'needlebeamlaw27.PlanLines'. -/
def planLinesCard : Claim7 := { stood := { row := planLinesRow, standIns := [], harness := (true, "f53528ad0b9735fedc8e375b4f776bb689f930f56b13a22007bb22b36d8d2b77"), looks := true }, kinds := [], alts := [], laidByText := true, laidKinds := [.data, .data, .data, .data, .pinned], laidTests := true, laidLooks := .later }
def PlanLinesCardSaid : Prop := Claim7.holds Tryz.pinned (.plain (OpenSpec.ofChange planLinesSpec)) planLinesCard

/-- THE TIED CARD OF 'needlebeamlaw27.PlanTells'. -/
def planTellsCard : Claim7 := { stood := { row := planTellsRow, standIns := [], harness := (true, "f53528ad0b9735fedc8e375b4f776bb689f930f56b13a22007bb22b36d8d2b77"), looks := true }, kinds := [], alts := [], laidByText := true, laidKinds := [.data, .data, .data, .data, .pinned], laidTests := true, laidLooks := .later }
def PlanTellsCardSaid : Prop := Claim7.holds Tryz.pinned (.plain (OpenSpec.ofChange planTellsSpec)) planTellsCard

/-- THE TIED CARD OF 'needlebeamlaw13.ExprTells'. -/
def exprTellsCard : Claim7 := { stood := { row := exprTellsRow, standIns := [], harness := (true, "f53528ad0b9735fedc8e375b4f776bb689f930f56b13a22007bb22b36d8d2b77"), looks := true }, kinds := [], alts := [], laidByText := true, laidKinds := [.data, .data, .data, .data, .sentinel, .sentinel, .pinned], laidTests := true, laidLooks := .later }
def ExprTellsCardSaid : Prop := Claim7.holds Tryz.pinned (.plain (OpenSpec.ofChange exprTellsSpec)) exprTellsCard

/-- THE TIED CARD OF 'needlebeamlaw13.ExprPuts'. -/
def exprPutsCard : Claim7 := { stood := { row := exprPutsRow, standIns := [], harness := (true, "f53528ad0b9735fedc8e375b4f776bb689f930f56b13a22007bb22b36d8d2b77"), looks := true }, kinds := [], alts := [], laidByText := true, laidKinds := [.data, .data, .data, .data, .sentinel, .sentinel, .pinned], laidTests := true, laidLooks := .later }
def ExprPutsCardSaid : Prop := Claim7.holds Tryz.pinned (.plain (OpenSpec.ofChange exprPutsSpec)) exprPutsCard

/-- THE TIED CARD OF 'needlebeamlaw17.SchemaBack'. -/
def schemaBackCard : Claim7 := { stood := { row := schemaBackRow, standIns := [], harness := (true, "f53528ad0b9735fedc8e375b4f776bb689f930f56b13a22007bb22b36d8d2b77"), looks := true }, kinds := [], alts := [], laidByText := true, laidKinds := [.data, .data, .data, .data, .sentinel, .sentinel, .pinned], laidTests := true, laidLooks := .later }
def SchemaBackCardSaid : Prop := Claim7.holds Tryz.pinned (.plain (OpenSpec.ofChange schemaBackSpec)) schemaBackCard

/-- THE TIED CARD OF 'needlebeamlaw17.SchemaTurns'. -/
def schemaTurnsCard : Claim7 := { stood := { row := schemaTurnsRow, standIns := [], harness := (true, "f53528ad0b9735fedc8e375b4f776bb689f930f56b13a22007bb22b36d8d2b77"), looks := true }, kinds := [], alts := [], laidByText := true, laidKinds := [.data, .data, .data, .data, .sentinel, .sentinel, .pinned], laidTests := true, laidLooks := .later }
def SchemaTurnsCardSaid : Prop := Claim7.holds Tryz.pinned (.plain (OpenSpec.ofChange schemaTurnsSpec)) schemaTurnsCard

/-- THE SECOND FORM's CARD OF 'needlebeamlaw12.LexNames'. -/
def lexNamesUptoCard : Claim7 := { stood := { row := lexNamesUptoRow, standIns := [], harness := (true, "f53528ad0b9735fedc8e375b4f776bb689f930f56b13a22007bb22b36d8d2b77"), looks := true }, kinds := [], alts := [], laidByText := true, laidKinds := [.data, .data, .data, .data, .sentinel, .sentinel, .pinned], laidTests := true, laidLooks := .later }
def LexNamesUptoCardSaid : Prop := Claim7.holds Tryz.pinned (.plain (OpenSpec.upto lexNamesSpec)) lexNamesUptoCard

/-- THE SECOND FORM's CARD OF 'needlebeamlaw12.LexGaps'. -/
def lexGapsUptoCard : Claim7 := { stood := { row := lexGapsUptoRow, standIns := [], harness := (true, "f53528ad0b9735fedc8e375b4f776bb689f930f56b13a22007bb22b36d8d2b77"), looks := true }, kinds := [], alts := [], laidByText := true, laidKinds := [.data, .data, .data, .data, .sentinel, .sentinel, .pinned], laidTests := true, laidLooks := .later }
def LexGapsUptoCardSaid : Prop := Claim7.holds Tryz.pinned (.plain (OpenSpec.upto lexGapsSpec)) lexGapsUptoCard

/-- THE SECOND FORM's CARD OF 'needlebeamlaw12.LexTwice'. -/
def lexTwiceUptoCard : Claim7 := { stood := { row := lexTwiceUptoRow, standIns := [], harness := (true, "f53528ad0b9735fedc8e375b4f776bb689f930f56b13a22007bb22b36d8d2b77"), looks := true }, kinds := [], alts := [], laidByText := true, laidKinds := [.data, .data, .data, .data, .sentinel, .sentinel, .pinned], laidTests := true, laidLooks := .later }
def LexTwiceUptoCardSaid : Prop := Claim7.holds Tryz.pinned (.plain (OpenSpec.upto lexTwiceSpec)) lexTwiceUptoCard

/-- THE SECOND FORM's CARD OF 'needlebeamlaw17.SchemaPrints'. -/
def schemaPrintsUptoCard : Claim7 := { stood := { row := schemaPrintsUptoRow, standIns := [], harness := (true, "f53528ad0b9735fedc8e375b4f776bb689f930f56b13a22007bb22b36d8d2b77"), looks := true }, kinds := [], alts := [], laidByText := true, laidKinds := [.data, .data, .data, .data, .sentinel, .sentinel, .pinned], laidTests := true, laidLooks := .later }
def SchemaPrintsUptoCardSaid : Prop := Claim7.holds Tryz.pinned (.plain (OpenSpec.upto schemaPrintsSpec)) schemaPrintsUptoCard

/-- THE SECOND FORM's CARD OF 'needlebeamlaw27.PlanLines'. -/
def planLinesUptoCard : Claim7 := { stood := { row := planLinesUptoRow, standIns := [], harness := (true, "f53528ad0b9735fedc8e375b4f776bb689f930f56b13a22007bb22b36d8d2b77"), looks := true }, kinds := [], alts := [], laidByText := true, laidKinds := [.data, .data, .data, .data, .pinned], laidTests := true, laidLooks := .later }
def PlanLinesUptoCardSaid : Prop := Claim7.holds Tryz.pinned (.plain (OpenSpec.upto planLinesSpec)) planLinesUptoCard

/-- THE SECOND FORM's CARD OF 'needlebeamlaw27.PlanTells'. -/
def planTellsUptoCard : Claim7 := { stood := { row := planTellsUptoRow, standIns := [], harness := (true, "f53528ad0b9735fedc8e375b4f776bb689f930f56b13a22007bb22b36d8d2b77"), looks := true }, kinds := [], alts := [], laidByText := true, laidKinds := [.data, .data, .data, .data, .pinned], laidTests := true, laidLooks := .later }
def PlanTellsUptoCardSaid : Prop := Claim7.holds Tryz.pinned (.plain (OpenSpec.upto planTellsSpec)) planTellsUptoCard

/-- THE SECOND FORM's CARD OF 'needlebeamlaw13.ExprTells'. -/
def exprTellsUptoCard : Claim7 := { stood := { row := exprTellsUptoRow, standIns := [], harness := (true, "f53528ad0b9735fedc8e375b4f776bb689f930f56b13a22007bb22b36d8d2b77"), looks := true }, kinds := [], alts := [], laidByText := true, laidKinds := [.data, .data, .data, .data, .sentinel, .sentinel, .pinned], laidTests := true, laidLooks := .later }
def ExprTellsUptoCardSaid : Prop := Claim7.holds Tryz.pinned (.plain (OpenSpec.upto exprTellsSpec)) exprTellsUptoCard

/-- THE SECOND FORM's CARD OF 'needlebeamlaw13.ExprPuts'. -/
def exprPutsUptoCard : Claim7 := { stood := { row := exprPutsUptoRow, standIns := [], harness := (true, "f53528ad0b9735fedc8e375b4f776bb689f930f56b13a22007bb22b36d8d2b77"), looks := true }, kinds := [], alts := [], laidByText := true, laidKinds := [.data, .data, .data, .data, .sentinel, .sentinel, .pinned], laidTests := true, laidLooks := .later }
def ExprPutsUptoCardSaid : Prop := Claim7.holds Tryz.pinned (.plain (OpenSpec.upto exprPutsSpec)) exprPutsUptoCard

/-- THE SECOND FORM's CARD OF 'needlebeamlaw17.SchemaBack'. -/
def schemaBackUptoCard : Claim7 := { stood := { row := schemaBackUptoRow, standIns := [], harness := (true, "f53528ad0b9735fedc8e375b4f776bb689f930f56b13a22007bb22b36d8d2b77"), looks := true }, kinds := [], alts := [], laidByText := true, laidKinds := [.data, .data, .data, .data, .sentinel, .sentinel, .pinned], laidTests := true, laidLooks := .later }
def SchemaBackUptoCardSaid : Prop := Claim7.holds Tryz.pinned (.plain (OpenSpec.upto schemaBackSpec)) schemaBackUptoCard

/-- THE SECOND FORM's CARD OF 'needlebeamlaw17.SchemaTurns'. -/
def schemaTurnsUptoCard : Claim7 := { stood := { row := schemaTurnsUptoRow, standIns := [], harness := (true, "f53528ad0b9735fedc8e375b4f776bb689f930f56b13a22007bb22b36d8d2b77"), looks := true }, kinds := [], alts := [], laidByText := true, laidKinds := [.data, .data, .data, .data, .sentinel, .sentinel, .pinned], laidTests := true, laidLooks := .later }
def SchemaTurnsUptoCardSaid : Prop := Claim7.holds Tryz.pinned (.plain (OpenSpec.upto schemaTurnsSpec)) schemaTurnsUptoCard
end Rows
end Go.Proofs.YtefgfjedonchdaaGreatDoor
