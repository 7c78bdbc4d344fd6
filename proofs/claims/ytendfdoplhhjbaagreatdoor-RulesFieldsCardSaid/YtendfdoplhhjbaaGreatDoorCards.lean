/-
  DERIVED. GIVEN WITH THE SEED: THE CARDS: each row of YtendfdoplhhjbaaGreatDoorRows.lean that lists a variable, with what it lists TIED to the program's text (the seventh form; the later family's looks); each row that meets fmt, with fmt's text TOLD by the authors' own Lean function (tested against real Go, not proved from fmt's source: count such statements apart). THE CARD IS WHAT COUNTS. Prove the row's statement (the work); the ties are given (YtendfdoplhhjbaaGreatDoorTie.lean); close each card by the builder's one call (the guide's Derived/Test/ToyasCard.lean, 'card_holds'). Laid BY PROGRAM, IN A SANDBOX (cutbox-door.mjs). By AI agents, Wed Nov 11 2026. No macro, syntax, notation, axiom, sorry.
-/
import Derived.Test.YtendfdoplhhjbaaGreatDoorRows
import GoSem.ClaimSeven
namespace Go.Proofs.YtendfdoplhhjbaaGreatDoor
namespace Rows

/-- THE TIED CARD OF 'columbarylaw11.RulesFields'. -/
def rulesFieldsCard : Claim7 := { stood := { row := rulesFieldsRow, standIns := [], harness := (true, "1e731f28abfc77cd0a583b2cda5a8d78fa21364cc2077d73bb566d112eee6c5c"), looks := false }, kinds := [], alts := [], laidByText := true, laidKinds := [.widerDeep], laidTests := true, laidLooks := .later }
def RulesFieldsCardSaid : Prop := Claim7.holds Tryz.pinned (.plain (OpenSpec.ofChange rulesFieldsSpec)) rulesFieldsCard

/-- THE TIED CARD OF 'columbarylaw11.RulesFrags'. -/
def rulesFragsCard : Claim7 := { stood := { row := rulesFragsRow, standIns := [], harness := (true, "1e731f28abfc77cd0a583b2cda5a8d78fa21364cc2077d73bb566d112eee6c5c"), looks := false }, kinds := [], alts := [], laidByText := true, laidKinds := [.widerDeep], laidTests := true, laidLooks := .later }
def RulesFragsCardSaid : Prop := Claim7.holds Tryz.pinned (.plain (OpenSpec.ofChange rulesFragsSpec)) rulesFragsCard
end Rows
end Go.Proofs.YtendfdoplhhjbaaGreatDoor
