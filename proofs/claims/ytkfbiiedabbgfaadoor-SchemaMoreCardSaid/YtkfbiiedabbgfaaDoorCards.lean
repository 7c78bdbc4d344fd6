/-
  DERIVED. GIVEN WITH THE SEED: THE CARDS: each row of YtkfbiiedabbgfaaDoorRows.lean that lists a variable, with what it lists TIED to the program's text (the seventh form; the later family's looks); each row that meets fmt, with fmt's text TOLD by the authors' own Lean function (tested against real Go, not proved from fmt's source: count such statements apart). THE CARD IS WHAT COUNTS. Prove the row's statement (the work); the ties are given (YtkfbiiedabbgfaaDoorTie.lean); close each card by the builder's one call (the guide's Derived/Test/ToyasCard.lean, 'card_holds'). Laid BY PROGRAM, IN A SANDBOX (cutbox-door.mjs). By AI agents, Wed Nov 11 2026. No macro, syntax, notation, axiom, sorry.
-/
import Derived.Test.YtkfbiiedabbgfaaDoorRows
import GoSem.ClaimSeven
namespace Go.Proofs.YtkfbiiedabbgfaaDoor
namespace Rows

/-- THE TIED CARD OF 'columbarylaw09.SchemaTwice'. -/
def schemaTwiceCard : Claim7 := { stood := { row := schemaTwiceRow, standIns := [], harness := (true, "cfd144c79200eb65b2f185f03a5ce11805f7c9ffe2767947bc7ab46b9f924568"), looks := false }, kinds := [], alts := [], laidByText := true, laidKinds := [.widerDeep], laidTests := true, laidLooks := .later }
def SchemaTwiceCardSaid : Prop := Claim7.holds Tryd.pinned (.plain (OpenSpec.ofChange schemaTwiceSpec)) schemaTwiceCard

/-- THE TIED CARD OF 'columbarylaw09.SchemaOrder'. -/
def schemaOrderCard : Claim7 := { stood := { row := schemaOrderRow, standIns := [], harness := (true, "cfd144c79200eb65b2f185f03a5ce11805f7c9ffe2767947bc7ab46b9f924568"), looks := false }, kinds := [], alts := [], laidByText := true, laidKinds := [.widerDeep], laidTests := true, laidLooks := .later }
def SchemaOrderCardSaid : Prop := Claim7.holds Tryd.pinned (.plain (OpenSpec.ofChange schemaOrderSpec)) schemaOrderCard

/-- THE TIED CARD OF 'columbarylaw09.SchemaMore'. -/
def schemaMoreCard : Claim7 := { stood := { row := schemaMoreRow, standIns := [], harness := (true, "cfd144c79200eb65b2f185f03a5ce11805f7c9ffe2767947bc7ab46b9f924568"), looks := false }, kinds := [], alts := [], laidByText := true, laidKinds := [.widerDeep], laidTests := true, laidLooks := .later }
def SchemaMoreCardSaid : Prop := Claim7.holds Tryd.pinned (.plain (OpenSpec.ofChange schemaMoreSpec)) schemaMoreCard

/-- THE TIED CARD OF 'columbarylaw09.SchemaPossible'. -/
def schemaPossibleCard : Claim7 := { stood := { row := schemaPossibleRow, standIns := [], harness := (true, "cfd144c79200eb65b2f185f03a5ce11805f7c9ffe2767947bc7ab46b9f924568"), looks := false }, kinds := [], alts := [], laidByText := true, laidKinds := [.widerDeep], laidTests := true, laidLooks := .later }
def SchemaPossibleCardSaid : Prop := Claim7.holds Tryd.pinned (.plain (OpenSpec.ofChange schemaPossibleSpec)) schemaPossibleCard

/-- THE TIED CARD OF 'columbarylaw09.SchemaNil'. -/
def schemaNilCard : Claim7 := { stood := { row := schemaNilRow, standIns := [], harness := (true, "cfd144c79200eb65b2f185f03a5ce11805f7c9ffe2767947bc7ab46b9f924568"), looks := false }, kinds := [], alts := [], laidByText := true, laidKinds := [.widerDeep], laidTests := true, laidLooks := .later }
def SchemaNilCardSaid : Prop := Claim7.holds Tryd.pinned (.plain (OpenSpec.ofChange schemaNilSpec)) schemaNilCard

/-- THE SECOND FORM's CARD OF 'columbarylaw09.SchemaTwice'. -/
def schemaTwiceUptoCard : Claim7 := { stood := { row := schemaTwiceUptoRow, standIns := [], harness := (true, "cfd144c79200eb65b2f185f03a5ce11805f7c9ffe2767947bc7ab46b9f924568"), looks := false }, kinds := [], alts := [], laidByText := true, laidKinds := [.widerDeep], laidTests := true, laidLooks := .later }
def SchemaTwiceUptoCardSaid : Prop := Claim7.holds Tryd.pinned (.plain (OpenSpec.upto schemaTwiceSpec)) schemaTwiceUptoCard

/-- THE SECOND FORM's CARD OF 'columbarylaw09.SchemaOrder'. -/
def schemaOrderUptoCard : Claim7 := { stood := { row := schemaOrderUptoRow, standIns := [], harness := (true, "cfd144c79200eb65b2f185f03a5ce11805f7c9ffe2767947bc7ab46b9f924568"), looks := false }, kinds := [], alts := [], laidByText := true, laidKinds := [.widerDeep], laidTests := true, laidLooks := .later }
def SchemaOrderUptoCardSaid : Prop := Claim7.holds Tryd.pinned (.plain (OpenSpec.upto schemaOrderSpec)) schemaOrderUptoCard

/-- THE SECOND FORM's CARD OF 'columbarylaw09.SchemaMore'. -/
def schemaMoreUptoCard : Claim7 := { stood := { row := schemaMoreUptoRow, standIns := [], harness := (true, "cfd144c79200eb65b2f185f03a5ce11805f7c9ffe2767947bc7ab46b9f924568"), looks := false }, kinds := [], alts := [], laidByText := true, laidKinds := [.widerDeep], laidTests := true, laidLooks := .later }
def SchemaMoreUptoCardSaid : Prop := Claim7.holds Tryd.pinned (.plain (OpenSpec.upto schemaMoreSpec)) schemaMoreUptoCard

/-- THE SECOND FORM's CARD OF 'columbarylaw09.SchemaPossible'. -/
def schemaPossibleUptoCard : Claim7 := { stood := { row := schemaPossibleUptoRow, standIns := [], harness := (true, "cfd144c79200eb65b2f185f03a5ce11805f7c9ffe2767947bc7ab46b9f924568"), looks := false }, kinds := [], alts := [], laidByText := true, laidKinds := [.widerDeep], laidTests := true, laidLooks := .later }
def SchemaPossibleUptoCardSaid : Prop := Claim7.holds Tryd.pinned (.plain (OpenSpec.upto schemaPossibleSpec)) schemaPossibleUptoCard

/-- THE SECOND FORM's CARD OF 'columbarylaw09.SchemaNil'. -/
def schemaNilUptoCard : Claim7 := { stood := { row := schemaNilUptoRow, standIns := [], harness := (true, "cfd144c79200eb65b2f185f03a5ce11805f7c9ffe2767947bc7ab46b9f924568"), looks := false }, kinds := [], alts := [], laidByText := true, laidKinds := [.widerDeep], laidTests := true, laidLooks := .later }
def SchemaNilUptoCardSaid : Prop := Claim7.holds Tryd.pinned (.plain (OpenSpec.upto schemaNilSpec)) schemaNilUptoCard
end Rows
end Go.Proofs.YtkfbiiedabbgfaaDoor
