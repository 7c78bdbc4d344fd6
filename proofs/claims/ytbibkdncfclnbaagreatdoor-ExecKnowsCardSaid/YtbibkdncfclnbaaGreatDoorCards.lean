/-
  DERIVED. GIVEN WITH THE SEED: THE CARDS: each row of YtbibkdncfclnbaaGreatDoorRows.lean that lists a variable, with what it lists TIED to the program's text (the seventh form; the later family's looks); each row that meets fmt, with fmt's text TOLD by the authors' own Lean function (tested against real Go, not proved from fmt's source: count such statements apart). THE CARD IS WHAT COUNTS. Prove the row's statement (the work); the ties are given (YtbibkdncfclnbaaGreatDoorTie.lean); close each card by the builder's one call (the guide's Derived/Test/ToyasCard.lean, 'card_holds'). Laid BY PROGRAM, IN A SANDBOX (cutbox-door.mjs). By AI agents, Wed Nov 11 2026. No macro, syntax, notation, axiom, sorry.
-/
import Derived.Test.YtbibkdncfclnbaaGreatDoorRows
import GoSem.ClaimSeven
namespace Go.Proofs.YtbibkdncfclnbaaGreatDoor
namespace Rows

/-- THE TIED CARD OF 'columbarylaw13.ExecKnows'. -/
def execKnowsCard : Claim7 := { stood := { row := execKnowsRow, standIns := [], harness := (true, "577862d6530adc5d20eaf74db58d6220fb32a5fde0f0ade6b44091254e9baa51"), looks := false }, kinds := [], alts := [], laidByText := true, laidKinds := [.data, .data, .data, .widerDeep], laidTests := true, laidLooks := .later }
def ExecKnowsCardSaid : Prop := Claim7.holds Tryz.pinned (.plain (OpenSpec.ofChange execKnowsSpec)) execKnowsCard

/-- THE TIED CARD OF 'columbarylaw13.ExecAlias'. -/
def execAliasCard : Claim7 := { stood := { row := execAliasRow, standIns := [], harness := (true, "577862d6530adc5d20eaf74db58d6220fb32a5fde0f0ade6b44091254e9baa51"), looks := false }, kinds := [], alts := [], laidByText := true, laidKinds := [.data, .data, .data, .widerDeep], laidTests := true, laidLooks := .later }
def ExecAliasCardSaid : Prop := Claim7.holds Tryz.pinned (.plain (OpenSpec.ofChange execAliasSpec)) execAliasCard

/-- THE TIED CARD OF 'columbarylaw13.ExecNulls'. -/
def execNullsCard : Claim7 := { stood := { row := execNullsRow, standIns := [], harness := (true, "577862d6530adc5d20eaf74db58d6220fb32a5fde0f0ade6b44091254e9baa51"), looks := false }, kinds := [], alts := [], laidByText := true, laidKinds := [.data, .data, .data, .widerDeep], laidTests := true, laidLooks := .later }
def ExecNullsCardSaid : Prop := Claim7.holds Tryz.pinned (.plain (OpenSpec.ofChange execNullsSpec)) execNullsCard

/-- THE TIED CARD OF 'columbarylaw13.ExecLong'. -/
def execLongCard : Claim7 := { stood := { row := execLongRow, standIns := [], harness := (true, "577862d6530adc5d20eaf74db58d6220fb32a5fde0f0ade6b44091254e9baa51"), looks := false }, kinds := [], alts := [], laidByText := true, laidKinds := [.data, .data, .data, .widerDeep], laidTests := true, laidLooks := .later }
def ExecLongCardSaid : Prop := Claim7.holds Tryz.pinned (.plain (OpenSpec.ofChange execLongSpec)) execLongCard

/-- THE TIED CARD OF 'columbarylaw13.ExecSkips'. -/
def execSkipsCard : Claim7 := { stood := { row := execSkipsRow, standIns := [], harness := (true, "577862d6530adc5d20eaf74db58d6220fb32a5fde0f0ade6b44091254e9baa51"), looks := false }, kinds := [], alts := [], laidByText := true, laidKinds := [.data, .data, .data, .widerDeep], laidTests := true, laidLooks := .later }
def ExecSkipsCardSaid : Prop := Claim7.holds Tryz.pinned (.plain (OpenSpec.ofChange execSkipsSpec)) execSkipsCard

/-- THE TIED CARD OF 'columbarylaw13.ExecParts'. -/
def execPartsCard : Claim7 := { stood := { row := execPartsRow, standIns := [], harness := (true, "577862d6530adc5d20eaf74db58d6220fb32a5fde0f0ade6b44091254e9baa51"), looks := false }, kinds := [], alts := [], laidByText := true, laidKinds := [.data, .data, .data, .widerDeep], laidTests := true, laidLooks := .later }
def ExecPartsCardSaid : Prop := Claim7.holds Tryz.pinned (.plain (OpenSpec.ofChange execPartsSpec)) execPartsCard

/-- THE TIED CARD OF 'columbarylaw13.ExecKeeps'. -/
def execKeepsCard : Claim7 := { stood := { row := execKeepsRow, standIns := [], harness := (true, "577862d6530adc5d20eaf74db58d6220fb32a5fde0f0ade6b44091254e9baa51"), looks := false }, kinds := [], alts := [], laidByText := true, laidKinds := [.data, .data, .data, .widerDeep], laidTests := true, laidLooks := .later }
def ExecKeepsCardSaid : Prop := Claim7.holds Tryz.pinned (.plain (OpenSpec.ofChange execKeepsSpec)) execKeepsCard

/-- THE TIED CARD OF 'columbarylaw13.ExecStores'. -/
def execStoresCard : Claim7 := { stood := { row := execStoresRow, standIns := [], harness := (true, "577862d6530adc5d20eaf74db58d6220fb32a5fde0f0ade6b44091254e9baa51"), looks := false }, kinds := [], alts := [], laidByText := true, laidKinds := [.data, .data, .data, .widerDeep], laidTests := true, laidLooks := .later }
def ExecStoresCardSaid : Prop := Claim7.holds Tryz.pinned (.plain (OpenSpec.ofChange execStoresSpec)) execStoresCard

/-- THE SECOND FORM's CARD OF 'columbarylaw13.ExecKnows'. -/
def execKnowsUptoCard : Claim7 := { stood := { row := execKnowsUptoRow, standIns := [], harness := (true, "577862d6530adc5d20eaf74db58d6220fb32a5fde0f0ade6b44091254e9baa51"), looks := false }, kinds := [], alts := [], laidByText := true, laidKinds := [.data, .data, .data, .widerDeep], laidTests := true, laidLooks := .later }
def ExecKnowsUptoCardSaid : Prop := Claim7.holds Tryz.pinned (.plain (OpenSpec.upto execKnowsSpec)) execKnowsUptoCard

/-- THE SECOND FORM's CARD OF 'columbarylaw13.ExecAlias'. -/
def execAliasUptoCard : Claim7 := { stood := { row := execAliasUptoRow, standIns := [], harness := (true, "577862d6530adc5d20eaf74db58d6220fb32a5fde0f0ade6b44091254e9baa51"), looks := false }, kinds := [], alts := [], laidByText := true, laidKinds := [.data, .data, .data, .widerDeep], laidTests := true, laidLooks := .later }
def ExecAliasUptoCardSaid : Prop := Claim7.holds Tryz.pinned (.plain (OpenSpec.upto execAliasSpec)) execAliasUptoCard

/-- THE SECOND FORM's CARD OF 'columbarylaw13.ExecNulls'. -/
def execNullsUptoCard : Claim7 := { stood := { row := execNullsUptoRow, standIns := [], harness := (true, "577862d6530adc5d20eaf74db58d6220fb32a5fde0f0ade6b44091254e9baa51"), looks := false }, kinds := [], alts := [], laidByText := true, laidKinds := [.data, .data, .data, .widerDeep], laidTests := true, laidLooks := .later }
def ExecNullsUptoCardSaid : Prop := Claim7.holds Tryz.pinned (.plain (OpenSpec.upto execNullsSpec)) execNullsUptoCard

/-- THE SECOND FORM's CARD OF 'columbarylaw13.ExecLong'. -/
def execLongUptoCard : Claim7 := { stood := { row := execLongUptoRow, standIns := [], harness := (true, "577862d6530adc5d20eaf74db58d6220fb32a5fde0f0ade6b44091254e9baa51"), looks := false }, kinds := [], alts := [], laidByText := true, laidKinds := [.data, .data, .data, .widerDeep], laidTests := true, laidLooks := .later }
def ExecLongUptoCardSaid : Prop := Claim7.holds Tryz.pinned (.plain (OpenSpec.upto execLongSpec)) execLongUptoCard

/-- THE SECOND FORM's CARD OF 'columbarylaw13.ExecSkips'. -/
def execSkipsUptoCard : Claim7 := { stood := { row := execSkipsUptoRow, standIns := [], harness := (true, "577862d6530adc5d20eaf74db58d6220fb32a5fde0f0ade6b44091254e9baa51"), looks := false }, kinds := [], alts := [], laidByText := true, laidKinds := [.data, .data, .data, .widerDeep], laidTests := true, laidLooks := .later }
def ExecSkipsUptoCardSaid : Prop := Claim7.holds Tryz.pinned (.plain (OpenSpec.upto execSkipsSpec)) execSkipsUptoCard

/-- THE SECOND FORM's CARD OF 'columbarylaw13.ExecParts'. -/
def execPartsUptoCard : Claim7 := { stood := { row := execPartsUptoRow, standIns := [], harness := (true, "577862d6530adc5d20eaf74db58d6220fb32a5fde0f0ade6b44091254e9baa51"), looks := false }, kinds := [], alts := [], laidByText := true, laidKinds := [.data, .data, .data, .widerDeep], laidTests := true, laidLooks := .later }
def ExecPartsUptoCardSaid : Prop := Claim7.holds Tryz.pinned (.plain (OpenSpec.upto execPartsSpec)) execPartsUptoCard

/-- THE SECOND FORM's CARD OF 'columbarylaw13.ExecKeeps'. -/
def execKeepsUptoCard : Claim7 := { stood := { row := execKeepsUptoRow, standIns := [], harness := (true, "577862d6530adc5d20eaf74db58d6220fb32a5fde0f0ade6b44091254e9baa51"), looks := false }, kinds := [], alts := [], laidByText := true, laidKinds := [.data, .data, .data, .widerDeep], laidTests := true, laidLooks := .later }
def ExecKeepsUptoCardSaid : Prop := Claim7.holds Tryz.pinned (.plain (OpenSpec.upto execKeepsSpec)) execKeepsUptoCard

/-- THE SECOND FORM's CARD OF 'columbarylaw13.ExecStores'. -/
def execStoresUptoCard : Claim7 := { stood := { row := execStoresUptoRow, standIns := [], harness := (true, "577862d6530adc5d20eaf74db58d6220fb32a5fde0f0ade6b44091254e9baa51"), looks := false }, kinds := [], alts := [], laidByText := true, laidKinds := [.data, .data, .data, .widerDeep], laidTests := true, laidLooks := .later }
def ExecStoresUptoCardSaid : Prop := Claim7.holds Tryz.pinned (.plain (OpenSpec.upto execStoresSpec)) execStoresUptoCard
end Rows
end Go.Proofs.YtbibkdncfclnbaaGreatDoor
