/-
  DERIVED. GIVEN WITH THE SEED: THE CARDS: each row of YtdlgfdncpemcnaaGreatDoorRows.lean that lists a variable, with what it lists TIED to the program's text (the seventh form; the later family's looks); each row that meets fmt, with fmt's text TOLD by the authors' own Lean function (tested against real Go, not proved from fmt's source: count such statements apart). THE CARD IS WHAT COUNTS. Prove the row's statement (the work); the ties are given (YtdlgfdncpemcnaaGreatDoorTie.lean); close each card by the builder's one call (the guide's Derived/Test/ToyasCard.lean, 'card_holds'). Laid BY PROGRAM, IN A SANDBOX (cutbox-door.mjs). By AI agents, Wed Nov 11 2026. No macro, syntax, notation, axiom, sorry.
-/
import Derived.Test.YtdlgfdncpemcnaaGreatDoorRows
import GoSem.ClaimSeven
namespace Go.Proofs.YtdlgfdncpemcnaaGreatDoor
namespace Rows

/-- THE TIED CARD OF 'columbarylaw14.ChangeFull'. -/
def changeFullCard : Claim7 := { stood := { row := changeFullRow, standIns := [], harness := (true, "23ea5bf2bd92bf40dfa5f980a1a415244fce0ed6176a25db9029036bad3b3276"), looks := true }, kinds := [], alts := [], laidByText := true, laidKinds := [.data, .data, .data, .sentinel, .sentinel, .widerDeep], laidTests := true, laidLooks := .later }
def ChangeFullCardSaid : Prop := Claim7.holds Tryz.pinned (.plain (OpenSpec.ofChange changeFullSpec)) changeFullCard

/-- THE TIED CARD OF 'columbarylaw14.ChangeWhole'. -/
def changeWholeCard : Claim7 := { stood := { row := changeWholeRow, standIns := [], harness := (true, "23ea5bf2bd92bf40dfa5f980a1a415244fce0ed6176a25db9029036bad3b3276"), looks := true }, kinds := [], alts := [], laidByText := true, laidKinds := [.data, .data, .data, .sentinel, .sentinel, .widerDeep], laidTests := true, laidLooks := .later }
def ChangeWholeCardSaid : Prop := Claim7.holds Tryz.pinned (.plain (OpenSpec.ofChange changeWholeSpec)) changeWholeCard

/-- THE SECOND FORM's CARD OF 'columbarylaw14.ChangeWhole'. -/
def changeWholeUptoCard : Claim7 := { stood := { row := changeWholeUptoRow, standIns := [], harness := (true, "23ea5bf2bd92bf40dfa5f980a1a415244fce0ed6176a25db9029036bad3b3276"), looks := true }, kinds := [], alts := [], laidByText := true, laidKinds := [.data, .data, .data, .sentinel, .sentinel, .widerDeep], laidTests := true, laidLooks := .later }
def ChangeWholeUptoCardSaid : Prop := Claim7.holds Tryz.pinned (.plain (OpenSpec.upto changeWholeSpec)) changeWholeUptoCard
end Rows
end Go.Proofs.YtdlgfdncpemcnaaGreatDoor
