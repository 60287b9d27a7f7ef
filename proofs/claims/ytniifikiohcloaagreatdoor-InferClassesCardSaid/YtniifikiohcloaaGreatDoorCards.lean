/-
  DERIVED. GIVEN WITH THE SEED: THE CARDS: each row of YtniifikiohcloaaGreatDoorRows.lean that lists a variable, with what it lists TIED to the program's text (the seventh form; the later family's looks); each row that meets fmt, with fmt's text TOLD by the authors' own Lean function (tested against real Go, not proved from fmt's source: count such statements apart). THE CARD IS WHAT COUNTS. Prove the row's statement (the work); the ties are given (YtniifikiohcloaaGreatDoorTie.lean); close each card by the builder's one call (the guide's Derived/Test/ToyasCard.lean, 'card_holds'). Laid BY PROGRAM, IN A SANDBOX (cutbox-door.mjs). By AI agents, Wed Nov 11 2026. No macro, syntax, notation, axiom, sorry.
-/
import Derived.Test.YtniifikiohcloaaGreatDoorRows
import GoSem.ClaimSeven
namespace Go.Proofs.YtniifikiohcloaaGreatDoor
namespace Rows

/-- THE TIED CARD OF 'cspchecklaw8.InferClasses'. -/
def inferClassesCard : Claim7 := { stood := { row := inferClassesRow, standIns := [], harness := (true, "e0fc16cb462d5a219e0e7a38eb390dcabdbb1e73e9659fd1d752d5b8a60ada28"), looks := true }, kinds := [], alts := [], laidByText := true, laidKinds := [.data, .widerDeep, .widerDeep, .widerDeep, .pinned], laidTests := true, laidLooks := .later }
def InferClassesCardSaid : Prop := Claim7.holds Tryz.pinned (.plain (OpenSpec.ofChange inferClassesSpec)) inferClassesCard

/-- THE TIED CARD OF 'cspchecklaw8.InferPolymorphism'. -/
def inferPolymorphismCard : Claim7 := { stood := { row := inferPolymorphismRow, standIns := [], harness := (true, "e0fc16cb462d5a219e0e7a38eb390dcabdbb1e73e9659fd1d752d5b8a60ada28"), looks := true }, kinds := [], alts := [], laidByText := true, laidKinds := [.data, .widerDeep, .widerDeep, .widerDeep, .pinned], laidTests := true, laidLooks := .later }
def InferPolymorphismCardSaid : Prop := Claim7.holds Tryz.pinned (.plain (OpenSpec.ofChange inferPolymorphismSpec)) inferPolymorphismCard

/-- THE SECOND FORM's CARD OF 'cspchecklaw8.InferClasses'. -/
def inferClassesUptoCard : Claim7 := { stood := { row := inferClassesUptoRow, standIns := [], harness := (true, "e0fc16cb462d5a219e0e7a38eb390dcabdbb1e73e9659fd1d752d5b8a60ada28"), looks := true }, kinds := [], alts := [], laidByText := true, laidKinds := [.data, .widerDeep, .widerDeep, .widerDeep, .pinned], laidTests := true, laidLooks := .later }
def InferClassesUptoCardSaid : Prop := Claim7.holds Tryz.pinned (.plain (OpenSpec.upto inferClassesSpec)) inferClassesUptoCard

/-- THE SECOND FORM's CARD OF 'cspchecklaw8.InferPolymorphism'. -/
def inferPolymorphismUptoCard : Claim7 := { stood := { row := inferPolymorphismUptoRow, standIns := [], harness := (true, "e0fc16cb462d5a219e0e7a38eb390dcabdbb1e73e9659fd1d752d5b8a60ada28"), looks := true }, kinds := [], alts := [], laidByText := true, laidKinds := [.data, .widerDeep, .widerDeep, .widerDeep, .pinned], laidTests := true, laidLooks := .later }
def InferPolymorphismUptoCardSaid : Prop := Claim7.holds Tryz.pinned (.plain (OpenSpec.upto inferPolymorphismSpec)) inferPolymorphismUptoCard
end Rows
end Go.Proofs.YtniifikiohcloaaGreatDoor
