/-
  DERIVED. GIVEN WITH THE SEED: THE CARDS: each row of YtmagaphdmgpneaaGreatDoorRows.lean that lists a variable, with what it lists TIED to the program's text (the seventh form; the later family's looks); each row that meets fmt, with fmt's text TOLD by the authors' own Lean function (tested against real Go, not proved from fmt's source: count such statements apart). THE CARD IS WHAT COUNTS. Prove the row's statement (the work); the ties are given (YtmagaphdmgpneaaGreatDoorTie.lean); close each card by the builder's one call (the guide's Derived/Test/ToyasCard.lean, 'card_holds'). Laid BY PROGRAM, IN A SANDBOX (cutbox-door.mjs). By AI agents, Wed Nov 11 2026. No macro, syntax, notation, axiom, sorry.
-/
import Derived.Test.YtmagaphdmgpneaaGreatDoorRows
import GoSem.ClaimSeven
namespace Go.Proofs.YtmagaphdmgpneaaGreatDoor
namespace Rows

/-- THE TIED CARD OF 'needlebeamlaw14.ShowOnce'. -/
def showOnceCard : Claim7 := { stood := { row := showOnceRow, standIns := [], harness := (true, "536a95e949046b52e74954c4c14fa5a217573140b357bdd5fe132e583916030c"), looks := true }, kinds := [], alts := [], laidByText := true, laidKinds := [.data, .data, .data, .data, .sentinel, .sentinel, .pinned], laidTests := true, laidLooks := .later }
def ShowOnceCardSaid : Prop := Claim7.holds Tryz.pinned (.plain (OpenSpec.ofChange showOnceSpec)) showOnceCard

/-- THE TIED CARD OF 'needlebeamlaw14.ShowApart'. -/
def showApartCard : Claim7 := { stood := { row := showApartRow, standIns := [], harness := (true, "536a95e949046b52e74954c4c14fa5a217573140b357bdd5fe132e583916030c"), looks := true }, kinds := [], alts := [], laidByText := true, laidKinds := [.data, .data, .data, .data, .sentinel, .sentinel, .pinned], laidTests := true, laidLooks := .later }
def ShowApartCardSaid : Prop := Claim7.holds Tryz.pinned (.plain (OpenSpec.ofChange showApartSpec)) showApartCard

/-- THE TIED CARD OF 'needlebeamlaw14.ShowPrints'. -/
def showPrintsCard : Claim7 := { stood := { row := showPrintsRow, standIns := [], harness := (true, "536a95e949046b52e74954c4c14fa5a217573140b357bdd5fe132e583916030c"), looks := true }, kinds := [], alts := [], laidByText := true, laidKinds := [.data, .data, .data, .data, .sentinel, .sentinel, .pinned], laidTests := true, laidLooks := .later }
def ShowPrintsCardSaid : Prop := Claim7.holds Tryz.pinned (.plain (OpenSpec.ofChange showPrintsSpec)) showPrintsCard

/-- THE TIED CARD OF 'needlebeamlaw16.EvalLogic'. -/
def evalLogicCard : Claim7 := { stood := { row := evalLogicRow, standIns := [], harness := (true, "536a95e949046b52e74954c4c14fa5a217573140b357bdd5fe132e583916030c"), looks := true }, kinds := [], alts := [], laidByText := true, laidKinds := [.data, .data, .data, .data, .sentinel, .sentinel, .pinned], laidTests := true, laidLooks := .later }
def EvalLogicCardSaid : Prop := Claim7.holds Tryz.pinned (.plain (OpenSpec.ofChange evalLogicSpec)) evalLogicCard

/-- THE TIED CARD OF 'needlebeamlaw16.EvalApart'. -/
def evalApartCard : Claim7 := { stood := { row := evalApartRow, standIns := [], harness := (true, "536a95e949046b52e74954c4c14fa5a217573140b357bdd5fe132e583916030c"), looks := true }, kinds := [], alts := [], laidByText := true, laidKinds := [.data, .data, .data, .data, .sentinel, .sentinel, .pinned], laidTests := true, laidLooks := .later }
def EvalApartCardSaid : Prop := Claim7.holds Tryz.pinned (.plain (OpenSpec.ofChange evalApartSpec)) evalApartCard

/-- THE TIED CARD OF 'needlebeamlaw16.EvalPuts'. -/
def evalPutsCard : Claim7 := { stood := { row := evalPutsRow, standIns := [], harness := (true, "536a95e949046b52e74954c4c14fa5a217573140b357bdd5fe132e583916030c"), looks := true }, kinds := [], alts := [], laidByText := true, laidKinds := [.data, .data, .data, .data, .sentinel, .sentinel, .pinned], laidTests := true, laidLooks := .later }
def EvalPutsCardSaid : Prop := Claim7.holds Tryz.pinned (.plain (OpenSpec.ofChange evalPutsSpec)) evalPutsCard

/-- THE SECOND FORM's CARD OF 'needlebeamlaw14.ShowOnce'. -/
def showOnceUptoCard : Claim7 := { stood := { row := showOnceUptoRow, standIns := [], harness := (true, "536a95e949046b52e74954c4c14fa5a217573140b357bdd5fe132e583916030c"), looks := true }, kinds := [], alts := [], laidByText := true, laidKinds := [.data, .data, .data, .data, .sentinel, .sentinel, .pinned], laidTests := true, laidLooks := .later }
def ShowOnceUptoCardSaid : Prop := Claim7.holds Tryz.pinned (.plain (OpenSpec.upto showOnceSpec)) showOnceUptoCard

/-- THE SECOND FORM's CARD OF 'needlebeamlaw14.ShowApart'. -/
def showApartUptoCard : Claim7 := { stood := { row := showApartUptoRow, standIns := [], harness := (true, "536a95e949046b52e74954c4c14fa5a217573140b357bdd5fe132e583916030c"), looks := true }, kinds := [], alts := [], laidByText := true, laidKinds := [.data, .data, .data, .data, .sentinel, .sentinel, .pinned], laidTests := true, laidLooks := .later }
def ShowApartUptoCardSaid : Prop := Claim7.holds Tryz.pinned (.plain (OpenSpec.upto showApartSpec)) showApartUptoCard

/-- THE SECOND FORM's CARD OF 'needlebeamlaw14.ShowPrints'. -/
def showPrintsUptoCard : Claim7 := { stood := { row := showPrintsUptoRow, standIns := [], harness := (true, "536a95e949046b52e74954c4c14fa5a217573140b357bdd5fe132e583916030c"), looks := true }, kinds := [], alts := [], laidByText := true, laidKinds := [.data, .data, .data, .data, .sentinel, .sentinel, .pinned], laidTests := true, laidLooks := .later }
def ShowPrintsUptoCardSaid : Prop := Claim7.holds Tryz.pinned (.plain (OpenSpec.upto showPrintsSpec)) showPrintsUptoCard

/-- THE SECOND FORM's CARD OF 'needlebeamlaw16.EvalLogic'. -/
def evalLogicUptoCard : Claim7 := { stood := { row := evalLogicUptoRow, standIns := [], harness := (true, "536a95e949046b52e74954c4c14fa5a217573140b357bdd5fe132e583916030c"), looks := true }, kinds := [], alts := [], laidByText := true, laidKinds := [.data, .data, .data, .data, .sentinel, .sentinel, .pinned], laidTests := true, laidLooks := .later }
def EvalLogicUptoCardSaid : Prop := Claim7.holds Tryz.pinned (.plain (OpenSpec.upto evalLogicSpec)) evalLogicUptoCard

/-- THE SECOND FORM's CARD OF 'needlebeamlaw16.EvalApart'. -/
def evalApartUptoCard : Claim7 := { stood := { row := evalApartUptoRow, standIns := [], harness := (true, "536a95e949046b52e74954c4c14fa5a217573140b357bdd5fe132e583916030c"), looks := true }, kinds := [], alts := [], laidByText := true, laidKinds := [.data, .data, .data, .data, .sentinel, .sentinel, .pinned], laidTests := true, laidLooks := .later }
def EvalApartUptoCardSaid : Prop := Claim7.holds Tryz.pinned (.plain (OpenSpec.upto evalApartSpec)) evalApartUptoCard

/-- THE SECOND FORM's CARD OF 'needlebeamlaw16.EvalPuts'. -/
def evalPutsUptoCard : Claim7 := { stood := { row := evalPutsUptoRow, standIns := [], harness := (true, "536a95e949046b52e74954c4c14fa5a217573140b357bdd5fe132e583916030c"), looks := true }, kinds := [], alts := [], laidByText := true, laidKinds := [.data, .data, .data, .data, .sentinel, .sentinel, .pinned], laidTests := true, laidLooks := .later }
def EvalPutsUptoCardSaid : Prop := Claim7.holds Tryz.pinned (.plain (OpenSpec.upto evalPutsSpec)) evalPutsUptoCard
end Rows
end Go.Proofs.YtmagaphdmgpneaaGreatDoor
