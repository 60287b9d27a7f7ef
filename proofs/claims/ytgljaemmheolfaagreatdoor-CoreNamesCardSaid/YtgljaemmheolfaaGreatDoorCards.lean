/-
  DERIVED. GIVEN WITH THE SEED: THE CARDS: each row of YtgljaemmheolfaaGreatDoorRows.lean that lists a variable, with what it lists TIED to the program's text (the seventh form; the later family's looks); each row that meets fmt, with fmt's text TOLD by the authors' own Lean function (tested against real Go, not proved from fmt's source: count such statements apart). THE CARD IS WHAT COUNTS. Prove the row's statement (the work); the ties are given (YtgljaemmheolfaaGreatDoorTie.lean); close each card by the builder's one call (the guide's Derived/Test/ToyasCard.lean, 'card_holds'). Laid BY PROGRAM, IN A SANDBOX (cutbox-door.mjs). By AI agents, Wed Nov 11 2026. No macro, syntax, notation, axiom, sorry.
-/
import Derived.Test.YtgljaemmheolfaaGreatDoorRows
import GoSem.ClaimSeven
namespace Go.Proofs.YtgljaemmheolfaaGreatDoor
namespace Rows

/-- THE TIED CARD OF 'cspchecklaw13.CoreNames'. -/
def coreNamesCard : Claim7 := { stood := { row := coreNamesRow, standIns := [], harness := (true, "d24a417bdd72b5c9c7925037d47e6f5a6698c2247b5ea03e9b3f1986fc2d6a97"), looks := true }, kinds := [], alts := [], laidByText := true, laidKinds := [.data, .data, .data, .data, .sentinel, .sentinel, .widerDeep, .widerDeep, .widerDeep, .widerDeep, .pinned], laidTests := true, laidLooks := .later }
def CoreNamesCardSaid : Prop := Claim7.holds Tryz.pinned (.plain (OpenSpec.ofChange coreNamesSpec)) coreNamesCard

/-- THE SECOND FORM's CARD OF 'cspchecklaw13.CoreNames'. -/
def coreNamesUptoCard : Claim7 := { stood := { row := coreNamesUptoRow, standIns := [], harness := (true, "d24a417bdd72b5c9c7925037d47e6f5a6698c2247b5ea03e9b3f1986fc2d6a97"), looks := true }, kinds := [], alts := [], laidByText := true, laidKinds := [.data, .data, .data, .data, .sentinel, .sentinel, .widerDeep, .widerDeep, .widerDeep, .widerDeep, .pinned], laidTests := true, laidLooks := .later }
def CoreNamesUptoCardSaid : Prop := Claim7.holds Tryz.pinned (.plain (OpenSpec.upto coreNamesSpec)) coreNamesUptoCard
end Rows
end Go.Proofs.YtgljaemmheolfaaGreatDoor
