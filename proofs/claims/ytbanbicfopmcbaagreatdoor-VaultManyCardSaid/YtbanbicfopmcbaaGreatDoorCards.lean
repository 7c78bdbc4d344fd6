/-
  DERIVED. GIVEN WITH THE SEED: THE CARDS: each row of YtbanbicfopmcbaaGreatDoorRows.lean that lists a variable, with what it lists TIED to the program's text (the seventh form; the later family's looks); each row that meets fmt, with fmt's text TOLD by the authors' own Lean function (tested against real Go, not proved from fmt's source: count such statements apart). THE CARD IS WHAT COUNTS. Prove the row's statement (the work); the ties are given (YtbanbicfopmcbaaGreatDoorTie.lean); close each card by the builder's one call (the guide's Derived/Test/ToyasCard.lean, 'card_holds'). Laid BY PROGRAM, IN A SANDBOX (cutbox-door.mjs). By AI agents, Wed Nov 11 2026. No macro, syntax, notation, axiom, sorry.
-/
import Derived.Test.YtbanbicfopmcbaaGreatDoorRows
import GoSem.ClaimSeven
namespace Go.Proofs.YtbanbicfopmcbaaGreatDoor
namespace Rows

/-- THE TIED CARD OF 'columbarylaw15.VaultMany'. -/
def vaultManyCard : Claim7 := { stood := { row := vaultManyRow, standIns := [], harness := (true, "b6b20b9784af634f3d753a4c8805bd57c84028e3a23d6f8741885d93a2fc28a6"), looks := true }, kinds := [], alts := [], laidByText := true, laidKinds := [.data, .data, .data, .sentinel, .sentinel, .widerDeep], laidTests := true, laidLooks := .later }
def VaultManyCardSaid : Prop := Claim7.holds Tryz.pinned (.plain (OpenSpec.ofChange vaultManySpec)) vaultManyCard

/-- THE TIED CARD OF 'columbarylaw15.VaultLoads'. -/
def vaultLoadsCard : Claim7 := { stood := { row := vaultLoadsRow, standIns := [], harness := (true, "b6b20b9784af634f3d753a4c8805bd57c84028e3a23d6f8741885d93a2fc28a6"), looks := true }, kinds := [], alts := [], laidByText := true, laidKinds := [.data, .data, .data, .sentinel, .sentinel, .widerDeep], laidTests := true, laidLooks := .later }
def VaultLoadsCardSaid : Prop := Claim7.holds Tryz.pinned (.plain (OpenSpec.ofChange vaultLoadsSpec)) vaultLoadsCard
end Rows
end Go.Proofs.YtbanbicfopmcbaaGreatDoor
