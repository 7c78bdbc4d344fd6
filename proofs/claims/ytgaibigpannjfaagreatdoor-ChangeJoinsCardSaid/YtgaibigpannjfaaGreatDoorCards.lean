/-
  DERIVED. GIVEN WITH THE SEED: THE CARDS: each row of YtgaibigpannjfaaGreatDoorRows.lean that lists a variable, with what it lists TIED to the program's text (the seventh form; the later family's looks); each row that meets fmt, with fmt's text TOLD by the authors' own Lean function (tested against real Go, not proved from fmt's source: count such statements apart). THE CARD IS WHAT COUNTS. Prove the row's statement (the work); the ties are given (YtgaibigpannjfaaGreatDoorTie.lean); close each card by the builder's one call (the guide's Derived/Test/ToyasCard.lean, 'card_holds'). Laid BY PROGRAM, IN A SANDBOX (cutbox-door.mjs). By AI agents, Wed Nov 11 2026. No macro, syntax, notation, axiom, sorry.
-/
import Derived.Test.YtgaibigpannjfaaGreatDoorRows
import GoSem.ClaimSeven
namespace Go.Proofs.YtgaibigpannjfaaGreatDoor
namespace Rows

/-- THE TIED CARD OF 'columbarylaw14.ChangeJoins'. -/
def changeJoinsCard : Claim7 := { stood := { row := changeJoinsRow, standIns := [], harness := (true, "c1fa3b79e65d20ef5ea85cef9191536698cf425fd50f87e403891063af5bd9de"), looks := true }, kinds := [], alts := [], laidByText := true, laidKinds := [.data, .data, .data, .sentinel, .sentinel, .widerDeep], laidTests := true, laidLooks := .later }
def ChangeJoinsCardSaid : Prop := Claim7.holds Tryz.pinned (.plain (OpenSpec.ofChange changeJoinsSpec)) changeJoinsCard
end Rows
end Go.Proofs.YtgaibigpannjfaaGreatDoor
