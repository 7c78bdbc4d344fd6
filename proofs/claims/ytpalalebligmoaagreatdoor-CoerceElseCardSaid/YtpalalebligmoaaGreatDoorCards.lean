/-
  DERIVED. GIVEN WITH THE SEED: THE CARDS: each row of YtpalalebligmoaaGreatDoorRows.lean that lists a variable, with what it lists TIED to the program's text (the seventh form; the later family's looks); each row that meets fmt, with fmt's text TOLD by the authors' own Lean function (tested against real Go, not proved from fmt's source: count such statements apart). THE CARD IS WHAT COUNTS. Prove the row's statement (the work); the ties are given (YtpalalebligmoaaGreatDoorTie.lean); close each card by the builder's one call (the guide's Derived/Test/ToyasCard.lean, 'card_holds'). Laid BY PROGRAM, IN A SANDBOX (cutbox-door.mjs). By AI agents, Wed Nov 11 2026. No macro, syntax, notation, axiom, sorry.
-/
import Derived.Test.YtpalalebligmoaaGreatDoorRows
import GoSem.ClaimSeven
namespace Go.Proofs.YtpalalebligmoaaGreatDoor
namespace Rows

/-- THE TIED CARD OF 'columbarylaw10.CoerceTwice'. -/
def coerceTwiceCard : Claim7 := { stood := { row := coerceTwiceRow, standIns := [], harness := (true, "c6e34d02094b78792ed9f8a82c4191022da265ddec2c26178cb5766e664b0699"), looks := false }, kinds := [], alts := [], laidByText := true, laidKinds := [.data, .data, .data, .widerDeep], laidTests := true, laidLooks := .later }
def CoerceTwiceCardSaid : Prop := Claim7.holds Tryz.pinned (.plain (OpenSpec.ofChange coerceTwiceSpec)) coerceTwiceCard

/-- THE TIED CARD OF 'columbarylaw10.CoerceGets'. -/
def coerceGetsCard : Claim7 := { stood := { row := coerceGetsRow, standIns := [], harness := (true, "c6e34d02094b78792ed9f8a82c4191022da265ddec2c26178cb5766e664b0699"), looks := false }, kinds := [], alts := [], laidByText := true, laidKinds := [.data, .data, .data, .widerDeep], laidTests := true, laidLooks := .later }
def CoerceGetsCardSaid : Prop := Claim7.holds Tryz.pinned (.plain (OpenSpec.ofChange coerceGetsSpec)) coerceGetsCard

/-- THE TIED CARD OF 'columbarylaw10.CoerceFits'. -/
def coerceFitsCard : Claim7 := { stood := { row := coerceFitsRow, standIns := [], harness := (true, "c6e34d02094b78792ed9f8a82c4191022da265ddec2c26178cb5766e664b0699"), looks := false }, kinds := [], alts := [], laidByText := true, laidKinds := [.data, .data, .data, .widerDeep], laidTests := true, laidLooks := .later }
def CoerceFitsCardSaid : Prop := Claim7.holds Tryz.pinned (.plain (OpenSpec.ofChange coerceFitsSpec)) coerceFitsCard

/-- THE TIED CARD OF 'columbarylaw10.CoerceOrder'. -/
def coerceOrderCard : Claim7 := { stood := { row := coerceOrderRow, standIns := [], harness := (true, "c6e34d02094b78792ed9f8a82c4191022da265ddec2c26178cb5766e664b0699"), looks := false }, kinds := [], alts := [], laidByText := true, laidKinds := [.data, .data, .data, .widerDeep], laidTests := true, laidLooks := .later }
def CoerceOrderCardSaid : Prop := Claim7.holds Tryz.pinned (.plain (OpenSpec.ofChange coerceOrderSpec)) coerceOrderCard

/-- THE TIED CARD OF 'columbarylaw10.CoerceDeep'. -/
def coerceDeepCard : Claim7 := { stood := { row := coerceDeepRow, standIns := [], harness := (true, "c6e34d02094b78792ed9f8a82c4191022da265ddec2c26178cb5766e664b0699"), looks := false }, kinds := [], alts := [], laidByText := true, laidKinds := [.data, .data, .data, .widerDeep], laidTests := true, laidLooks := .later }
def CoerceDeepCardSaid : Prop := Claim7.holds Tryz.pinned (.plain (OpenSpec.ofChange coerceDeepSpec)) coerceDeepCard

/-- THE TIED CARD OF 'columbarylaw10.CoerceElse'. -/
def coerceElseCard : Claim7 := { stood := { row := coerceElseRow, standIns := [], harness := (true, "c6e34d02094b78792ed9f8a82c4191022da265ddec2c26178cb5766e664b0699"), looks := false }, kinds := [], alts := [], laidByText := true, laidKinds := [.data, .data, .data, .widerDeep], laidTests := true, laidLooks := .later }
def CoerceElseCardSaid : Prop := Claim7.holds Tryz.pinned (.plain (OpenSpec.ofChange coerceElseSpec)) coerceElseCard

/-- THE SECOND FORM's CARD OF 'columbarylaw10.CoerceTwice'. -/
def coerceTwiceUptoCard : Claim7 := { stood := { row := coerceTwiceUptoRow, standIns := [], harness := (true, "c6e34d02094b78792ed9f8a82c4191022da265ddec2c26178cb5766e664b0699"), looks := false }, kinds := [], alts := [], laidByText := true, laidKinds := [.data, .data, .data, .widerDeep], laidTests := true, laidLooks := .later }
def CoerceTwiceUptoCardSaid : Prop := Claim7.holds Tryz.pinned (.plain (OpenSpec.upto coerceTwiceSpec)) coerceTwiceUptoCard

/-- THE SECOND FORM's CARD OF 'columbarylaw10.CoerceGets'. -/
def coerceGetsUptoCard : Claim7 := { stood := { row := coerceGetsUptoRow, standIns := [], harness := (true, "c6e34d02094b78792ed9f8a82c4191022da265ddec2c26178cb5766e664b0699"), looks := false }, kinds := [], alts := [], laidByText := true, laidKinds := [.data, .data, .data, .widerDeep], laidTests := true, laidLooks := .later }
def CoerceGetsUptoCardSaid : Prop := Claim7.holds Tryz.pinned (.plain (OpenSpec.upto coerceGetsSpec)) coerceGetsUptoCard

/-- THE SECOND FORM's CARD OF 'columbarylaw10.CoerceFits'. -/
def coerceFitsUptoCard : Claim7 := { stood := { row := coerceFitsUptoRow, standIns := [], harness := (true, "c6e34d02094b78792ed9f8a82c4191022da265ddec2c26178cb5766e664b0699"), looks := false }, kinds := [], alts := [], laidByText := true, laidKinds := [.data, .data, .data, .widerDeep], laidTests := true, laidLooks := .later }
def CoerceFitsUptoCardSaid : Prop := Claim7.holds Tryz.pinned (.plain (OpenSpec.upto coerceFitsSpec)) coerceFitsUptoCard

/-- THE SECOND FORM's CARD OF 'columbarylaw10.CoerceOrder'. -/
def coerceOrderUptoCard : Claim7 := { stood := { row := coerceOrderUptoRow, standIns := [], harness := (true, "c6e34d02094b78792ed9f8a82c4191022da265ddec2c26178cb5766e664b0699"), looks := false }, kinds := [], alts := [], laidByText := true, laidKinds := [.data, .data, .data, .widerDeep], laidTests := true, laidLooks := .later }
def CoerceOrderUptoCardSaid : Prop := Claim7.holds Tryz.pinned (.plain (OpenSpec.upto coerceOrderSpec)) coerceOrderUptoCard

/-- THE SECOND FORM's CARD OF 'columbarylaw10.CoerceDeep'. -/
def coerceDeepUptoCard : Claim7 := { stood := { row := coerceDeepUptoRow, standIns := [], harness := (true, "c6e34d02094b78792ed9f8a82c4191022da265ddec2c26178cb5766e664b0699"), looks := false }, kinds := [], alts := [], laidByText := true, laidKinds := [.data, .data, .data, .widerDeep], laidTests := true, laidLooks := .later }
def CoerceDeepUptoCardSaid : Prop := Claim7.holds Tryz.pinned (.plain (OpenSpec.upto coerceDeepSpec)) coerceDeepUptoCard

/-- THE SECOND FORM's CARD OF 'columbarylaw10.CoerceElse'. -/
def coerceElseUptoCard : Claim7 := { stood := { row := coerceElseUptoRow, standIns := [], harness := (true, "c6e34d02094b78792ed9f8a82c4191022da265ddec2c26178cb5766e664b0699"), looks := false }, kinds := [], alts := [], laidByText := true, laidKinds := [.data, .data, .data, .widerDeep], laidTests := true, laidLooks := .later }
def CoerceElseUptoCardSaid : Prop := Claim7.holds Tryz.pinned (.plain (OpenSpec.upto coerceElseSpec)) coerceElseUptoCard
end Rows
end Go.Proofs.YtpalalebligmoaaGreatDoor
