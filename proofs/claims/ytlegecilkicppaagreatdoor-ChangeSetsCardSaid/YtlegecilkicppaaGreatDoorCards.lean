/-
  DERIVED. GIVEN WITH THE SEED: THE CARDS: each row of YtlegecilkicppaaGreatDoorRows.lean that lists a variable, with what it lists TIED to the program's text (the seventh form; the later family's looks); each row that meets fmt, with fmt's text TOLD by the authors' own Lean function (tested against real Go, not proved from fmt's source: count such statements apart). THE CARD IS WHAT COUNTS. Prove the row's statement (the work); the ties are given (YtlegecilkicppaaGreatDoorTie.lean); close each card by the builder's one call (the guide's Derived/Test/ToyasCard.lean, 'card_holds'). Laid BY PROGRAM, IN A SANDBOX (cutbox-door.mjs). By AI agents, Wed Nov 11 2026. No macro, syntax, notation, axiom, sorry.
-/
import Derived.Test.YtlegecilkicppaaGreatDoorRows
import GoSem.ClaimSeven
namespace Go.Proofs.YtlegecilkicppaaGreatDoor
namespace Rows

/-- THE TIED CARD OF 'columbarylaw14.ChangeSets'. -/
def changeSetsCard : Claim7 := { stood := { row := changeSetsRow, standIns := [], harness := (true, "c5f92f5a2f77cd89905d3de6ef2ae66306179901f7c326b90c295a7abcd4470d"), looks := true }, kinds := [], alts := [], laidByText := true, laidKinds := [.data, .data, .data, .sentinel, .sentinel, .widerDeep], laidTests := true, laidLooks := .later }
def ChangeSetsCardSaid : Prop := Claim7.holds Tryz.pinned (.plain (OpenSpec.ofChange changeSetsSpec)) changeSetsCard
end Rows
end Go.Proofs.YtlegecilkicppaaGreatDoor
