/-
  DERIVED. GIVEN WITH THE SEED: THE CARDS: each row of YtekiioamifokoaaGreatDoorRows.lean that lists a variable, with what it lists TIED to the program's text (the seventh form; the later family's looks); each row that meets fmt, with fmt's text TOLD by the authors' own Lean function (tested against real Go, not proved from fmt's source: count such statements apart). THE CARD IS WHAT COUNTS. Prove the row's statement (the work); the ties are given (YtekiioamifokoaaGreatDoorTie.lean); close each card by the builder's one call (the guide's Derived/Test/ToyasCard.lean, 'card_holds'). Laid BY PROGRAM, IN A SANDBOX (cutbox-door.mjs). By AI agents, Wed Nov 11 2026. No macro, syntax, notation, axiom, sorry.
-/
import Derived.Test.YtekiioamifokoaaGreatDoorRows
import GoSem.ClaimSeven
namespace Go.Proofs.YtekiioamifokoaaGreatDoor
namespace Rows

/-- THE TIED CARD OF 'needlebeamlaw23.RewriteTells'. -/
def rewriteTellsCard : Claim7 := { stood := { row := rewriteTellsRow, standIns := [], harness := (true, "2312e981a6b381f2ee1fee8f8247e54da3c95a945791c172369ace61fa2fbb3c"), looks := true }, kinds := [], alts := [], laidByText := true, laidKinds := [.data, .data, .data, .data, .sentinel, .sentinel, .pinned], laidTests := true, laidLooks := .later }
def RewriteTellsCardSaid : Prop := Claim7.holds Tryz.pinned (.plain (OpenSpec.ofChange rewriteTellsSpec)) rewriteTellsCard

/-- THE TIED CARD OF 'needlebeamlaw23.RewriteForth'. -/
def rewriteForthCard : Claim7 := { stood := { row := rewriteForthRow, standIns := [], harness := (true, "2312e981a6b381f2ee1fee8f8247e54da3c95a945791c172369ace61fa2fbb3c"), looks := true }, kinds := [], alts := [], laidByText := true, laidKinds := [.data, .data, .data, .data, .sentinel, .sentinel, .pinned], laidTests := true, laidLooks := .later }
def RewriteForthCardSaid : Prop := Claim7.holds Tryz.pinned (.plain (OpenSpec.ofChange rewriteForthSpec)) rewriteForthCard

/-- THE TIED CARD OF 'needlebeamlaw23.RewriteNone'. -/
def rewriteNoneCard : Claim7 := { stood := { row := rewriteNoneRow, standIns := [], harness := (true, "2312e981a6b381f2ee1fee8f8247e54da3c95a945791c172369ace61fa2fbb3c"), looks := true }, kinds := [], alts := [], laidByText := true, laidKinds := [.data, .data, .data, .data, .sentinel, .sentinel, .pinned], laidTests := true, laidLooks := .later }
def RewriteNoneCardSaid : Prop := Claim7.holds Tryz.pinned (.plain (OpenSpec.ofChange rewriteNoneSpec)) rewriteNoneCard

/-- THE TIED CARD OF 'needlebeamlaw23.RewriteBack'. -/
def rewriteBackCard : Claim7 := { stood := { row := rewriteBackRow, standIns := [], harness := (true, "2312e981a6b381f2ee1fee8f8247e54da3c95a945791c172369ace61fa2fbb3c"), looks := true }, kinds := [], alts := [], laidByText := true, laidKinds := [.data, .data, .data, .data, .sentinel, .sentinel, .pinned], laidTests := true, laidLooks := .later }
def RewriteBackCardSaid : Prop := Claim7.holds Tryz.pinned (.plain (OpenSpec.ofChange rewriteBackSpec)) rewriteBackCard

/-- THE SECOND FORM's CARD OF 'needlebeamlaw23.RewriteTells'. -/
def rewriteTellsUptoCard : Claim7 := { stood := { row := rewriteTellsUptoRow, standIns := [], harness := (true, "2312e981a6b381f2ee1fee8f8247e54da3c95a945791c172369ace61fa2fbb3c"), looks := true }, kinds := [], alts := [], laidByText := true, laidKinds := [.data, .data, .data, .data, .sentinel, .sentinel, .pinned], laidTests := true, laidLooks := .later }
def RewriteTellsUptoCardSaid : Prop := Claim7.holds Tryz.pinned (.plain (OpenSpec.upto rewriteTellsSpec)) rewriteTellsUptoCard

/-- THE SECOND FORM's CARD OF 'needlebeamlaw23.RewriteForth'. -/
def rewriteForthUptoCard : Claim7 := { stood := { row := rewriteForthUptoRow, standIns := [], harness := (true, "2312e981a6b381f2ee1fee8f8247e54da3c95a945791c172369ace61fa2fbb3c"), looks := true }, kinds := [], alts := [], laidByText := true, laidKinds := [.data, .data, .data, .data, .sentinel, .sentinel, .pinned], laidTests := true, laidLooks := .later }
def RewriteForthUptoCardSaid : Prop := Claim7.holds Tryz.pinned (.plain (OpenSpec.upto rewriteForthSpec)) rewriteForthUptoCard

/-- THE SECOND FORM's CARD OF 'needlebeamlaw23.RewriteNone'. -/
def rewriteNoneUptoCard : Claim7 := { stood := { row := rewriteNoneUptoRow, standIns := [], harness := (true, "2312e981a6b381f2ee1fee8f8247e54da3c95a945791c172369ace61fa2fbb3c"), looks := true }, kinds := [], alts := [], laidByText := true, laidKinds := [.data, .data, .data, .data, .sentinel, .sentinel, .pinned], laidTests := true, laidLooks := .later }
def RewriteNoneUptoCardSaid : Prop := Claim7.holds Tryz.pinned (.plain (OpenSpec.upto rewriteNoneSpec)) rewriteNoneUptoCard

/-- THE SECOND FORM's CARD OF 'needlebeamlaw23.RewriteBack'. -/
def rewriteBackUptoCard : Claim7 := { stood := { row := rewriteBackUptoRow, standIns := [], harness := (true, "2312e981a6b381f2ee1fee8f8247e54da3c95a945791c172369ace61fa2fbb3c"), looks := true }, kinds := [], alts := [], laidByText := true, laidKinds := [.data, .data, .data, .data, .sentinel, .sentinel, .pinned], laidTests := true, laidLooks := .later }
def RewriteBackUptoCardSaid : Prop := Claim7.holds Tryz.pinned (.plain (OpenSpec.upto rewriteBackSpec)) rewriteBackUptoCard
end Rows
end Go.Proofs.YtekiioamifokoaaGreatDoor
