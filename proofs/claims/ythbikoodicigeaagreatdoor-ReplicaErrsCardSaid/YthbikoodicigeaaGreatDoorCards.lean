/-
  DERIVED. GIVEN WITH THE SEED: THE CARDS: each row of YthbikoodicigeaaGreatDoorRows.lean that lists a variable, with what it lists TIED to the program's text (the seventh form; the later family's looks); each row that meets fmt, with fmt's text TOLD by the authors' own Lean function (tested against real Go, not proved from fmt's source: count such statements apart). THE CARD IS WHAT COUNTS. Prove the row's statement (the work); the ties are given (YthbikoodicigeaaGreatDoorTie.lean); close each card by the builder's one call (the guide's Derived/Test/ToyasCard.lean, 'card_holds'). Laid BY PROGRAM, IN A SANDBOX (cutbox-door.mjs). By AI agents, Wed Nov 11 2026. No macro, syntax, notation, axiom, sorry.
-/
import Derived.Test.YthbikoodicigeaaGreatDoorRows
import GoSem.ClaimSeven
namespace Go.Proofs.YthbikoodicigeaaGreatDoor
namespace Rows

/-- THE TIED CARD OF 'columbarylaw16.ReplicaErrs'. -/
def replicaErrsCard : Claim7 := { stood := { row := replicaErrsRow, standIns := [], harness := (true, "c8334949f9f29a5ec825afcc68c47f2d9af7c4fb97869442873e1395179bc855"), looks := true }, kinds := [], alts := [], laidByText := true, laidKinds := [.data, .data, .data, .sentinel, .sentinel, .widerDeep], laidTests := true, laidLooks := .later }
def ReplicaErrsCardSaid : Prop := Claim7.holds Tryz.pinned (.plain (OpenSpec.ofChange replicaErrsSpec)) replicaErrsCard

/-- THE SECOND FORM's CARD OF 'columbarylaw16.ReplicaErrs'. -/
def replicaErrsUptoCard : Claim7 := { stood := { row := replicaErrsUptoRow, standIns := [], harness := (true, "c8334949f9f29a5ec825afcc68c47f2d9af7c4fb97869442873e1395179bc855"), looks := true }, kinds := [], alts := [], laidByText := true, laidKinds := [.data, .data, .data, .sentinel, .sentinel, .widerDeep], laidTests := true, laidLooks := .later }
def ReplicaErrsUptoCardSaid : Prop := Claim7.holds Tryz.pinned (.plain (OpenSpec.upto replicaErrsSpec)) replicaErrsUptoCard
end Rows
end Go.Proofs.YthbikoodicigeaaGreatDoor
