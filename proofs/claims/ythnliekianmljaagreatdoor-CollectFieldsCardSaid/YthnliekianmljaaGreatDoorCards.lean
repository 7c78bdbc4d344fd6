/-
  DERIVED. GIVEN WITH THE SEED: THE CARDS: each row of YthnliekianmljaaGreatDoorRows.lean that lists a variable, with what it lists TIED to the program's text (the seventh form; the later family's looks); each row that meets fmt, with fmt's text TOLD by the authors' own Lean function (tested against real Go, not proved from fmt's source: count such statements apart). THE CARD IS WHAT COUNTS. Prove the row's statement (the work); the ties are given (YthnliekianmljaaGreatDoorTie.lean); close each card by the builder's one call (the guide's Derived/Test/ToyasCard.lean, 'card_holds'). Laid BY PROGRAM, IN A SANDBOX (cutbox-door.mjs). By AI agents, Wed Nov 11 2026. No macro, syntax, notation, axiom, sorry.
-/
import Derived.Test.YthnliekianmljaaGreatDoorRows
import GoSem.ClaimSeven
namespace Go.Proofs.YthnliekianmljaaGreatDoor
namespace Rows

/-- THE TIED CARD OF 'columbarylaw12.CollectTwice'. -/
def collectTwiceCard : Claim7 := { stood := { row := collectTwiceRow, standIns := [], harness := (true, "96276361df8694d8eb437e5bf23e0da8ec6d42f65fa24d02ab8c9d940cff04b7"), looks := false }, kinds := [], alts := [], laidByText := true, laidKinds := [.widerDeep], laidTests := true, laidLooks := .later }
def CollectTwiceCardSaid : Prop := Claim7.holds Tryz.pinned (.plain (OpenSpec.ofChange collectTwiceSpec)) collectTwiceCard

/-- THE TIED CARD OF 'columbarylaw12.CollectAlways'. -/
def collectAlwaysCard : Claim7 := { stood := { row := collectAlwaysRow, standIns := [], harness := (true, "96276361df8694d8eb437e5bf23e0da8ec6d42f65fa24d02ab8c9d940cff04b7"), looks := false }, kinds := [], alts := [], laidByText := true, laidKinds := [.widerDeep], laidTests := true, laidLooks := .later }
def CollectAlwaysCardSaid : Prop := Claim7.holds Tryz.pinned (.plain (OpenSpec.ofChange collectAlwaysSpec)) collectAlwaysCard

/-- THE TIED CARD OF 'columbarylaw12.CollectTypes'. -/
def collectTypesCard : Claim7 := { stood := { row := collectTypesRow, standIns := [], harness := (true, "96276361df8694d8eb437e5bf23e0da8ec6d42f65fa24d02ab8c9d940cff04b7"), looks := false }, kinds := [], alts := [], laidByText := true, laidKinds := [.widerDeep], laidTests := true, laidLooks := .later }
def CollectTypesCardSaid : Prop := Claim7.holds Tryz.pinned (.plain (OpenSpec.ofChange collectTypesSpec)) collectTypesCard

/-- THE TIED CARD OF 'columbarylaw12.CollectOrder'. -/
def collectOrderCard : Claim7 := { stood := { row := collectOrderRow, standIns := [], harness := (true, "96276361df8694d8eb437e5bf23e0da8ec6d42f65fa24d02ab8c9d940cff04b7"), looks := false }, kinds := [], alts := [], laidByText := true, laidKinds := [.widerDeep], laidTests := true, laidLooks := .later }
def CollectOrderCardSaid : Prop := Claim7.holds Tryz.pinned (.plain (OpenSpec.ofChange collectOrderSpec)) collectOrderCard

/-- THE TIED CARD OF 'columbarylaw12.CollectOnce'. -/
def collectOnceCard : Claim7 := { stood := { row := collectOnceRow, standIns := [], harness := (true, "96276361df8694d8eb437e5bf23e0da8ec6d42f65fa24d02ab8c9d940cff04b7"), looks := false }, kinds := [], alts := [], laidByText := true, laidKinds := [.widerDeep], laidTests := true, laidLooks := .later }
def CollectOnceCardSaid : Prop := Claim7.holds Tryz.pinned (.plain (OpenSpec.ofChange collectOnceSpec)) collectOnceCard

/-- THE TIED CARD OF 'columbarylaw12.CollectFields'. -/
def collectFieldsCard : Claim7 := { stood := { row := collectFieldsRow, standIns := [], harness := (true, "96276361df8694d8eb437e5bf23e0da8ec6d42f65fa24d02ab8c9d940cff04b7"), looks := false }, kinds := [], alts := [], laidByText := true, laidKinds := [.widerDeep], laidTests := true, laidLooks := .later }
def CollectFieldsCardSaid : Prop := Claim7.holds Tryz.pinned (.plain (OpenSpec.ofChange collectFieldsSpec)) collectFieldsCard

/-- THE SECOND FORM's CARD OF 'columbarylaw12.CollectTwice'. -/
def collectTwiceUptoCard : Claim7 := { stood := { row := collectTwiceUptoRow, standIns := [], harness := (true, "96276361df8694d8eb437e5bf23e0da8ec6d42f65fa24d02ab8c9d940cff04b7"), looks := false }, kinds := [], alts := [], laidByText := true, laidKinds := [.widerDeep], laidTests := true, laidLooks := .later }
def CollectTwiceUptoCardSaid : Prop := Claim7.holds Tryz.pinned (.plain (OpenSpec.upto collectTwiceSpec)) collectTwiceUptoCard

/-- THE SECOND FORM's CARD OF 'columbarylaw12.CollectAlways'. -/
def collectAlwaysUptoCard : Claim7 := { stood := { row := collectAlwaysUptoRow, standIns := [], harness := (true, "96276361df8694d8eb437e5bf23e0da8ec6d42f65fa24d02ab8c9d940cff04b7"), looks := false }, kinds := [], alts := [], laidByText := true, laidKinds := [.widerDeep], laidTests := true, laidLooks := .later }
def CollectAlwaysUptoCardSaid : Prop := Claim7.holds Tryz.pinned (.plain (OpenSpec.upto collectAlwaysSpec)) collectAlwaysUptoCard

/-- THE SECOND FORM's CARD OF 'columbarylaw12.CollectTypes'. -/
def collectTypesUptoCard : Claim7 := { stood := { row := collectTypesUptoRow, standIns := [], harness := (true, "96276361df8694d8eb437e5bf23e0da8ec6d42f65fa24d02ab8c9d940cff04b7"), looks := false }, kinds := [], alts := [], laidByText := true, laidKinds := [.widerDeep], laidTests := true, laidLooks := .later }
def CollectTypesUptoCardSaid : Prop := Claim7.holds Tryz.pinned (.plain (OpenSpec.upto collectTypesSpec)) collectTypesUptoCard

/-- THE SECOND FORM's CARD OF 'columbarylaw12.CollectOrder'. -/
def collectOrderUptoCard : Claim7 := { stood := { row := collectOrderUptoRow, standIns := [], harness := (true, "96276361df8694d8eb437e5bf23e0da8ec6d42f65fa24d02ab8c9d940cff04b7"), looks := false }, kinds := [], alts := [], laidByText := true, laidKinds := [.widerDeep], laidTests := true, laidLooks := .later }
def CollectOrderUptoCardSaid : Prop := Claim7.holds Tryz.pinned (.plain (OpenSpec.upto collectOrderSpec)) collectOrderUptoCard

/-- THE SECOND FORM's CARD OF 'columbarylaw12.CollectOnce'. -/
def collectOnceUptoCard : Claim7 := { stood := { row := collectOnceUptoRow, standIns := [], harness := (true, "96276361df8694d8eb437e5bf23e0da8ec6d42f65fa24d02ab8c9d940cff04b7"), looks := false }, kinds := [], alts := [], laidByText := true, laidKinds := [.widerDeep], laidTests := true, laidLooks := .later }
def CollectOnceUptoCardSaid : Prop := Claim7.holds Tryz.pinned (.plain (OpenSpec.upto collectOnceSpec)) collectOnceUptoCard

/-- THE SECOND FORM's CARD OF 'columbarylaw12.CollectFields'. -/
def collectFieldsUptoCard : Claim7 := { stood := { row := collectFieldsUptoRow, standIns := [], harness := (true, "96276361df8694d8eb437e5bf23e0da8ec6d42f65fa24d02ab8c9d940cff04b7"), looks := false }, kinds := [], alts := [], laidByText := true, laidKinds := [.widerDeep], laidTests := true, laidLooks := .later }
def CollectFieldsUptoCardSaid : Prop := Claim7.holds Tryz.pinned (.plain (OpenSpec.upto collectFieldsSpec)) collectFieldsUptoCard
end Rows
end Go.Proofs.YthnliekianmljaaGreatDoor
