/-
  NARROWER THAN 'FOR EVERY INPUT', by the rows' own cells (each row's printed sentence says how): RulesFields: calm, laid · RulesFrags: calm, laid.
  DERIVED. THE GIVEN ROWS OF THIS SEAT. 2 by the template 'for every input the law returns true; each argument reads behind the call as it read before'; 0 by the template 'total and deterministic' (their statements: YtendfdoplhhjbaaGreatDoorTotals.lean).
  GIVEN WITH THE SEED: the statements are not yours to turn. If you find one false, say at which input.
  Laid BY PROGRAM, IN A SANDBOX (cutbox-rows.mjs): the forced cells as the released guide's own fill.sh prints them over the translation 0ccf46be00046e30… (all of the seat's roots in one cut). By AI agents, Wed Nov 11 2026. No macro, syntax, notation, axiom, sorry.
-/
import Derived.Test.YtendfdoplhhjbaaGreatDoorChecked
import GoSem.Claim
import GoSem.ClaimJoined
import GoSem.ClaimMapViews
import Derived.JoinedTies
import Derived.KernelRfl
namespace Go.Proofs.YtendfdoplhhjbaaGreatDoor
/- THE CELL 'sum', in the pinned program and in every row, IS THE sha256 OF THE DUMP (.gsa) THAT YtendfdoplhhjbaaGreatDoorProg.lean LOADS. Nothing in Lean hashes anything: it is a label: what it is worth is what the hold of that sum in a sandbox is worth. -/
noncomputable def Tryz.pinned : Pinned := { name := "ytendfdoplhhjbaagreatdoor", sum := "0ccf46be00046e300fc606484fc731494a41bef1bb928ac97eb77c48a2199fb1", checked := Tryz.checked }
namespace Rows
def none {H : Type} : Left H := { results := [], args := [] }

/- WHAT THE LISTED PACKAGE-LEVEL VARIABLES READ AS WHEN THE CALL BEGINS. Each datum BY PROGRAM (the guide's laid-datum.mjs) off the statement by which the dump's own 'gosem.cut.vars' lays the variable. In a bare row this is a premise. The card (YtendfdoplhhjbaaGreatDoorCards.lean) ties it to the program's text. -/
def laid_columbary_schema_Scalars {H : Type} : DataW H := .agg [.lit (.string [66, 111, 111, 108, 101, 97, 110]), .lit (.string [73, 68]), .lit (.string [73, 110, 116]), .lit (.string [83, 116, 114, 105, 110, 103])]

/-- 'columbarylaw11.RulesFields': WHATEVER THE INPUT: true; the input reads as it did. -/
def rulesFieldsSpec : ChangeSpec := { name := "rulesFields", fn := fun _ => fun
  | [d1, d2] => { results := [.lit (.bool true)], args := [d1, d2] }
  | _ => none }
def rulesFieldsRow : OpenClaim := { program := "ytendfdoplhhjbaagreatdoor", sum := "0ccf46be00046e300fc606484fc731494a41bef1bb928ac97eb77c48a2199fb1", func := "columbary/columbarylaw11.RulesFields", spec := "rulesFields", unfollowed := true, recurses := true, named := ["columbary/schema.Scalars", "columbary/rules.condition"], apart := false, calm := true, outside := [.timePasses], laid := [("columbary/schema.Scalars", laid_columbary_schema_Scalars)] }
def RulesFieldsSaid : Prop := rulesFieldsRow.holds Tryz.pinned (OpenSpec.ofChange rulesFieldsSpec)

/-- ITS FALSE NEIGHBOUR: 'it returns false'. Refute it at one input. -/
def rulesFieldsWrong : ChangeSpec := { name := "rulesFields", fn := fun _ => fun
  | [d1, d2] => { results := [.lit (.bool false)], args := [d1, d2] }
  | _ => none }
def RulesFieldsWrongFalsely : Prop := rulesFieldsRow.holds Tryz.pinned (OpenSpec.ofChange rulesFieldsWrong)

/-- 'columbarylaw11.RulesFrags': WHATEVER THE INPUT: true; the input reads as it did. -/
def rulesFragsSpec : ChangeSpec := { name := "rulesFrags", fn := fun _ => fun
  | [d1, d2, d3] => { results := [.lit (.bool true)], args := [d1, d2, d3] }
  | _ => none }
def rulesFragsRow : OpenClaim := { program := "ytendfdoplhhjbaagreatdoor", sum := "0ccf46be00046e300fc606484fc731494a41bef1bb928ac97eb77c48a2199fb1", func := "columbary/columbarylaw11.RulesFrags", spec := "rulesFrags", unfollowed := true, recurses := true, named := ["columbary/schema.Scalars", "columbary/rules.condition"], apart := false, calm := true, outside := [.timePasses], laid := [("columbary/schema.Scalars", laid_columbary_schema_Scalars)] }
def RulesFragsSaid : Prop := rulesFragsRow.holds Tryz.pinned (OpenSpec.ofChange rulesFragsSpec)

/-- ITS FALSE NEIGHBOUR: 'it returns false'. Refute it at one input. -/
def rulesFragsWrong : ChangeSpec := { name := "rulesFrags", fn := fun _ => fun
  | [d1, d2, d3] => { results := [.lit (.bool false)], args := [d1, d2, d3] }
  | _ => none }
def RulesFragsWrongFalsely : Prop := rulesFragsRow.holds Tryz.pinned (OpenSpec.ofChange rulesFragsWrong)

end Rows
end Go.Proofs.YtendfdoplhhjbaaGreatDoor
