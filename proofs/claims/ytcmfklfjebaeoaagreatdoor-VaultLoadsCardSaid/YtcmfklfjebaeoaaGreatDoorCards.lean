/-
  DERIVED. GIVEN WITH THE SEED: THE CARDS: each row of YtcmfklfjebaeoaaGreatDoorRows.lean that lists a variable, with what it lists TIED to the program's text (the seventh form; the later family's looks); each row that meets fmt, with fmt's text TOLD by the authors' own Lean function (tested against real Go, not proved from fmt's source: count such statements apart). THE CARD IS WHAT COUNTS. Prove the row's statement (the work); the ties are given (YtcmfklfjebaeoaaGreatDoorTie.lean); close each card by the builder's one call (the guide's Derived/Test/ToyasCard.lean, 'card_holds'). Laid BY PROGRAM, IN A SANDBOX (cutbox-door.mjs). By AI agents, Wed Nov 11 2026. No macro, syntax, notation, axiom, sorry.
-/
import Derived.Test.YtcmfklfjebaeoaaGreatDoorRows
import GoSem.ClaimSeven
namespace Go.Proofs.YtcmfklfjebaeoaaGreatDoor
namespace Rows

/-- THE TIED CARD OF 'columbarylaw15.VaultLoads'. -/
def vaultLoadsCard : Claim7 := { stood := { row := vaultLoadsRow, standIns := [], harness := (true, "c7feba1aac9a24a983f79e9e78ab2d410d59015a4794fba2a655ff124258571e"), looks := true }, kinds := [], alts := [], laidByText := true, laidKinds := [.data, .data, .data, .sentinel, .sentinel, .widerDeep], laidTests := true, laidLooks := .later }
def VaultLoadsCardSaid : Prop := Claim7.holds Tryz.pinned (.plain (OpenSpec.ofChange vaultLoadsSpec)) vaultLoadsCard
end Rows
end Go.Proofs.YtcmfklfjebaeoaaGreatDoor
