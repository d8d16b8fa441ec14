/-
  DERIVED. GIVEN WITH THE SEED: THE CARDS: each row of YtbakbphlfekakaaGreatDoorRows.lean that lists a variable, with what it lists TIED to the program's text (the seventh form; the later family's looks); each row that meets fmt, with fmt's text TOLD by the authors' own Lean function (tested against real Go, not proved from fmt's source: count such statements apart). THE CARD IS WHAT COUNTS. Prove the row's statement (the work); the ties are given (YtbakbphlfekakaaGreatDoorTie.lean); close each card by the builder's one call (the guide's Derived/Test/ToyasCard.lean, 'card_holds'). Laid BY PROGRAM, IN A SANDBOX (cutbox-door.mjs). By AI agents, Wed Nov 11 2026. No macro, syntax, notation, axiom, sorry.
-/
import Derived.Test.YtbakbphlfekakaaGreatDoorRows
import GoSem.ClaimSeven
namespace Go.Proofs.YtbakbphlfekakaaGreatDoor
namespace Rows

/-- THE TIED CARD OF 'needlebeamlaw16.EvalLogic'. -/
def evalLogicCard : Claim7 := { stood := { row := evalLogicRow, standIns := [], harness := (true, "f8574fc0adb94ac1dd0e7605310851d5efbf7a511902250d193c5fe9db1140c8"), looks := true }, kinds := [], alts := [], laidByText := true, laidKinds := [.data, .data, .data, .data, .sentinel, .sentinel, .pinned], laidTests := true, laidLooks := .later }
def EvalLogicCardSaid : Prop := Claim7.holds Tryz.pinned (.plain (OpenSpec.ofChange evalLogicSpec)) evalLogicCard

/-- THE TIED CARD OF 'needlebeamlaw16.EvalApart'. -/
def evalApartCard : Claim7 := { stood := { row := evalApartRow, standIns := [], harness := (true, "f8574fc0adb94ac1dd0e7605310851d5efbf7a511902250d193c5fe9db1140c8"), looks := true }, kinds := [], alts := [], laidByText := true, laidKinds := [.data, .data, .data, .data, .sentinel, .sentinel, .pinned], laidTests := true, laidLooks := .later }
def EvalApartCardSaid : Prop := Claim7.holds Tryz.pinned (.plain (OpenSpec.ofChange evalApartSpec)) evalApartCard

/-- THE TIED CARD OF 'needlebeamlaw16.EvalPuts'. -/
def evalPutsCard : Claim7 := { stood := { row := evalPutsRow, standIns := [], harness := (true, "f8574fc0adb94ac1dd0e7605310851d5efbf7a511902250d193c5fe9db1140c8"), looks := true }, kinds := [], alts := [], laidByText := true, laidKinds := [.data, .data, .data, .data, .sentinel, .sentinel, .pinned], laidTests := true, laidLooks := .later }
def EvalPutsCardSaid : Prop := Claim7.holds Tryz.pinned (.plain (OpenSpec.ofChange evalPutsSpec)) evalPutsCard

/-- THE TIED CARD OF 'needlebeamlaw16.EvalKinds'. -/
def evalKindsCard : Claim7 := { stood := { row := evalKindsRow, standIns := [], harness := (true, "f8574fc0adb94ac1dd0e7605310851d5efbf7a511902250d193c5fe9db1140c8"), looks := true }, kinds := [], alts := [], laidByText := true, laidKinds := [.data, .data, .data, .data, .sentinel, .sentinel, .pinned], laidTests := true, laidLooks := .later }
def EvalKindsCardSaid : Prop := Claim7.holds Tryz.pinned (.plain (OpenSpec.ofChange evalKindsSpec)) evalKindsCard

/-- THE SECOND FORM's CARD OF 'needlebeamlaw16.EvalLogic'. -/
def evalLogicUptoCard : Claim7 := { stood := { row := evalLogicUptoRow, standIns := [], harness := (true, "f8574fc0adb94ac1dd0e7605310851d5efbf7a511902250d193c5fe9db1140c8"), looks := true }, kinds := [], alts := [], laidByText := true, laidKinds := [.data, .data, .data, .data, .sentinel, .sentinel, .pinned], laidTests := true, laidLooks := .later }
def EvalLogicUptoCardSaid : Prop := Claim7.holds Tryz.pinned (.plain (OpenSpec.upto evalLogicSpec)) evalLogicUptoCard

/-- THE SECOND FORM's CARD OF 'needlebeamlaw16.EvalApart'. -/
def evalApartUptoCard : Claim7 := { stood := { row := evalApartUptoRow, standIns := [], harness := (true, "f8574fc0adb94ac1dd0e7605310851d5efbf7a511902250d193c5fe9db1140c8"), looks := true }, kinds := [], alts := [], laidByText := true, laidKinds := [.data, .data, .data, .data, .sentinel, .sentinel, .pinned], laidTests := true, laidLooks := .later }
def EvalApartUptoCardSaid : Prop := Claim7.holds Tryz.pinned (.plain (OpenSpec.upto evalApartSpec)) evalApartUptoCard

/-- THE SECOND FORM's CARD OF 'needlebeamlaw16.EvalPuts'. -/
def evalPutsUptoCard : Claim7 := { stood := { row := evalPutsUptoRow, standIns := [], harness := (true, "f8574fc0adb94ac1dd0e7605310851d5efbf7a511902250d193c5fe9db1140c8"), looks := true }, kinds := [], alts := [], laidByText := true, laidKinds := [.data, .data, .data, .data, .sentinel, .sentinel, .pinned], laidTests := true, laidLooks := .later }
def EvalPutsUptoCardSaid : Prop := Claim7.holds Tryz.pinned (.plain (OpenSpec.upto evalPutsSpec)) evalPutsUptoCard

/-- THE SECOND FORM's CARD OF 'needlebeamlaw16.EvalKinds'. -/
def evalKindsUptoCard : Claim7 := { stood := { row := evalKindsUptoRow, standIns := [], harness := (true, "f8574fc0adb94ac1dd0e7605310851d5efbf7a511902250d193c5fe9db1140c8"), looks := true }, kinds := [], alts := [], laidByText := true, laidKinds := [.data, .data, .data, .data, .sentinel, .sentinel, .pinned], laidTests := true, laidLooks := .later }
def EvalKindsUptoCardSaid : Prop := Claim7.holds Tryz.pinned (.plain (OpenSpec.upto evalKindsSpec)) evalKindsUptoCard
end Rows
end Go.Proofs.YtbakbphlfekakaaGreatDoor
