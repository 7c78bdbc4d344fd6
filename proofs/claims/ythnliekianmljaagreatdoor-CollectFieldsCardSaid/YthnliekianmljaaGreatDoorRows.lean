/-
  NARROWER THAN 'FOR EVERY INPUT', by the rows' own cells (each row's printed sentence says how): CollectTwice: laid · CollectAlways: laid · CollectTypes: laid · CollectOrder: laid · CollectOnce: laid · CollectFields: loops, laid.
  DERIVED. THE GIVEN ROWS OF THIS SEAT. 6 by the template 'for every input the law returns true; each argument reads behind the call as it read before'; 0 by the template 'total and deterministic' (their statements: YthnliekianmljaaGreatDoorTotals.lean).
  GIVEN WITH THE SEED: the statements are not yours to turn. If you find one false, say at which input.
  Laid BY PROGRAM, IN A SANDBOX (cutbox-rows.mjs): the forced cells as the released guide's own fill.sh prints them over the translation fc0f0b566d83c571… (all of the seat's roots in one cut). By AI agents, Wed Nov 11 2026. No macro, syntax, notation, axiom, sorry.
-/
import Derived.Test.YthnliekianmljaaGreatDoorChecked
import GoSem.Claim
import GoSem.ClaimJoined
import GoSem.ClaimMapViews
import Derived.JoinedTies
import Derived.KernelRfl
namespace Go.Proofs.YthnliekianmljaaGreatDoor
/- THE CELL 'sum', in the pinned program and in every row, IS THE sha256 OF THE DUMP (.gsa) THAT YthnliekianmljaaGreatDoorProg.lean LOADS. Nothing in Lean hashes anything: it is a label: what it is worth is what the hold of that sum in a sandbox is worth. -/
noncomputable def Tryz.pinned : Pinned := { name := "ythnliekianmljaagreatdoor", sum := "fc0f0b566d83c5717ffd9aeaae9f58dfa3657db255b163130aee9017df5982d4", checked := Tryz.checked }
namespace Rows
def none {H : Type} : Left H := { results := [], args := [] }

/- WHAT THE LISTED PACKAGE-LEVEL VARIABLES READ AS WHEN THE CALL BEGINS. Each datum BY PROGRAM (the guide's laid-datum.mjs) off the statement by which the dump's own 'gosem.cut.vars' lays the variable. In a bare row this is a premise. The card (YthnliekianmljaaGreatDoorCards.lean) ties it to the program's text. -/
def laid_columbary_schema_Scalars {H : Type} : DataW H := .agg [.lit (.string [66, 111, 111, 108, 101, 97, 110]), .lit (.string [73, 68]), .lit (.string [73, 110, 116]), .lit (.string [83, 116, 114, 105, 110, 103])]

/-- 'columbarylaw12.CollectTwice': WHATEVER THE INPUT: true; the input reads as it did. -/
def collectTwiceSpec : ChangeSpec := { name := "collectTwice", fn := fun _ => fun
  | [d] => { results := [.lit (.bool true)], args := [d] }
  | _ => none }
def collectTwiceRow : OpenClaim := { program := "ythnliekianmljaagreatdoor", sum := "fc0f0b566d83c5717ffd9aeaae9f58dfa3657db255b163130aee9017df5982d4", func := "columbary/columbarylaw12.CollectTwice", spec := "collectTwice", unfollowed := true, recurses := true, named := ["columbary/schema.Scalars"], apart := false, laid := [("columbary/schema.Scalars", laid_columbary_schema_Scalars)] }
def CollectTwiceSaid : Prop := collectTwiceRow.holds Tryz.pinned (OpenSpec.ofChange collectTwiceSpec)

/-- ITS FALSE NEIGHBOUR: 'it returns false'. Refute it at one input. -/
def collectTwiceWrong : ChangeSpec := { name := "collectTwice", fn := fun _ => fun
  | [d] => { results := [.lit (.bool false)], args := [d] }
  | _ => none }
def CollectTwiceWrongFalsely : Prop := collectTwiceRow.holds Tryz.pinned (OpenSpec.ofChange collectTwiceWrong)

/-- 'columbarylaw12.CollectAlways': WHATEVER THE INPUT: true; the input reads as it did. -/
def collectAlwaysSpec : ChangeSpec := { name := "collectAlways", fn := fun _ => fun
  | [d] => { results := [.lit (.bool true)], args := [d] }
  | _ => none }
def collectAlwaysRow : OpenClaim := { program := "ythnliekianmljaagreatdoor", sum := "fc0f0b566d83c5717ffd9aeaae9f58dfa3657db255b163130aee9017df5982d4", func := "columbary/columbarylaw12.CollectAlways", spec := "collectAlways", unfollowed := true, recurses := true, named := ["columbary/schema.Scalars"], apart := false, laid := [("columbary/schema.Scalars", laid_columbary_schema_Scalars)] }
def CollectAlwaysSaid : Prop := collectAlwaysRow.holds Tryz.pinned (OpenSpec.ofChange collectAlwaysSpec)

/-- ITS FALSE NEIGHBOUR: 'it returns false'. Refute it at one input. -/
def collectAlwaysWrong : ChangeSpec := { name := "collectAlways", fn := fun _ => fun
  | [d] => { results := [.lit (.bool false)], args := [d] }
  | _ => none }
def CollectAlwaysWrongFalsely : Prop := collectAlwaysRow.holds Tryz.pinned (OpenSpec.ofChange collectAlwaysWrong)

/-- 'columbarylaw12.CollectTypes': WHATEVER THE INPUT: true; the input reads as it did. -/
def collectTypesSpec : ChangeSpec := { name := "collectTypes", fn := fun _ => fun
  | [d1, d2] => { results := [.lit (.bool true)], args := [d1, d2] }
  | _ => none }
def collectTypesRow : OpenClaim := { program := "ythnliekianmljaagreatdoor", sum := "fc0f0b566d83c5717ffd9aeaae9f58dfa3657db255b163130aee9017df5982d4", func := "columbary/columbarylaw12.CollectTypes", spec := "collectTypes", unfollowed := true, recurses := true, named := ["columbary/schema.Scalars"], apart := false, laid := [("columbary/schema.Scalars", laid_columbary_schema_Scalars)] }
def CollectTypesSaid : Prop := collectTypesRow.holds Tryz.pinned (OpenSpec.ofChange collectTypesSpec)

/-- ITS FALSE NEIGHBOUR: 'it returns false'. Refute it at one input. -/
def collectTypesWrong : ChangeSpec := { name := "collectTypes", fn := fun _ => fun
  | [d1, d2] => { results := [.lit (.bool false)], args := [d1, d2] }
  | _ => none }
def CollectTypesWrongFalsely : Prop := collectTypesRow.holds Tryz.pinned (OpenSpec.ofChange collectTypesWrong)

/-- 'columbarylaw12.CollectOrder': WHATEVER THE INPUT: true; the input reads as it did. -/
def collectOrderSpec : ChangeSpec := { name := "collectOrder", fn := fun _ => fun
  | [d1, d2] => { results := [.lit (.bool true)], args := [d1, d2] }
  | _ => none }
def collectOrderRow : OpenClaim := { program := "ythnliekianmljaagreatdoor", sum := "fc0f0b566d83c5717ffd9aeaae9f58dfa3657db255b163130aee9017df5982d4", func := "columbary/columbarylaw12.CollectOrder", spec := "collectOrder", unfollowed := true, recurses := true, named := ["columbary/schema.Scalars"], apart := false, laid := [("columbary/schema.Scalars", laid_columbary_schema_Scalars)] }
def CollectOrderSaid : Prop := collectOrderRow.holds Tryz.pinned (OpenSpec.ofChange collectOrderSpec)

/-- ITS FALSE NEIGHBOUR: 'it returns false'. Refute it at one input. -/
def collectOrderWrong : ChangeSpec := { name := "collectOrder", fn := fun _ => fun
  | [d1, d2] => { results := [.lit (.bool false)], args := [d1, d2] }
  | _ => none }
def CollectOrderWrongFalsely : Prop := collectOrderRow.holds Tryz.pinned (OpenSpec.ofChange collectOrderWrong)

/-- 'columbarylaw12.CollectOnce': WHATEVER THE INPUT: true; the input reads as it did. -/
def collectOnceSpec : ChangeSpec := { name := "collectOnce", fn := fun _ => fun
  | [d] => { results := [.lit (.bool true)], args := [d] }
  | _ => none }
def collectOnceRow : OpenClaim := { program := "ythnliekianmljaagreatdoor", sum := "fc0f0b566d83c5717ffd9aeaae9f58dfa3657db255b163130aee9017df5982d4", func := "columbary/columbarylaw12.CollectOnce", spec := "collectOnce", unfollowed := true, recurses := true, named := ["columbary/schema.Scalars"], apart := false, laid := [("columbary/schema.Scalars", laid_columbary_schema_Scalars)] }
def CollectOnceSaid : Prop := collectOnceRow.holds Tryz.pinned (OpenSpec.ofChange collectOnceSpec)

/-- ITS FALSE NEIGHBOUR: 'it returns false'. Refute it at one input. -/
def collectOnceWrong : ChangeSpec := { name := "collectOnce", fn := fun _ => fun
  | [d] => { results := [.lit (.bool false)], args := [d] }
  | _ => none }
def CollectOnceWrongFalsely : Prop := collectOnceRow.holds Tryz.pinned (OpenSpec.ofChange collectOnceWrong)

/-- 'columbarylaw12.CollectFields': WHATEVER THE INPUT: true; the input reads as it did. -/
def collectFieldsSpec : ChangeSpec := { name := "collectFields", fn := fun _ => fun
  | [d1, d2, d3] => { results := [.lit (.bool true)], args := [d1, d2, d3] }
  | _ => none }
def collectFieldsRow : OpenClaim := { program := "ythnliekianmljaagreatdoor", sum := "fc0f0b566d83c5717ffd9aeaae9f58dfa3657db255b163130aee9017df5982d4", func := "columbary/columbarylaw12.CollectFields", spec := "collectFields", unfollowed := true, recurses := true, named := ["columbary/schema.Scalars"], loops := true, apart := false, laid := [("columbary/schema.Scalars", laid_columbary_schema_Scalars)] }
def CollectFieldsSaid : Prop := collectFieldsRow.holds Tryz.pinned (OpenSpec.ofChange collectFieldsSpec)

/-- ITS FALSE NEIGHBOUR: 'it returns false'. Refute it at one input. -/
def collectFieldsWrong : ChangeSpec := { name := "collectFields", fn := fun _ => fun
  | [d1, d2, d3] => { results := [.lit (.bool false)], args := [d1, d2, d3] }
  | _ => none }
def CollectFieldsWrongFalsely : Prop := collectFieldsRow.holds Tryz.pinned (OpenSpec.ofChange collectFieldsWrong)

/- THE SECOND FORM. 'bulk': how many values and letters a reading holds, each counted each time it is reached (what is shared counts as often as it is met; a slice's spare places count too). A statement '..UptoSaid' is the law's where the arguments, and the package variables that the reading takes, are together of bulk at most 1048576: NARROWER than '..Said'. Prove '..Said' where nothing that the law and all that it calls make is longer than what came in: it says more and counts as full. Else prove '..UptoSaid'. A law counts once. -/
mutual
def uptoBulk {H : Type} : DataW H → Nat
  | .lit (.string bytes) => bytes.length + 1
  | .lit _ => 1
  | .nil => 1
  | .ptr d => uptoBulk d + 1
  | .slice elems spare => uptoBulkAll elems + uptoBulkAll spare + 1
  | .agg parts => uptoBulkAll parts + 1
  | .iface _ d => uptoBulk d + 1
  | .map entries => uptoBulkEntries entries + 1
  | .held _ => 1
def uptoBulkAll {H : Type} : List (DataW H) → Nat
  | [] => 0
  | d :: r => uptoBulk d + uptoBulkAll r
def uptoBulkEntries {H : Type} : List (Lit × DataW H) → Nat
  | [] => 0
  | x :: r => uptoBulkEntry x + uptoBulkEntries r
def uptoBulkEntry {H : Type} : Lit × DataW H → Nat
  | (.string bytes, d) => bytes.length + uptoBulk d + 1
  | (_, d) => uptoBulk d + 1
 end
def uptoSmall : (H : Type) → List (DataW H) → Bool := fun _ ds => decide (uptoBulkAll ds ≤ 1048576)
def OpenSpec.upto (s : _root_.Go.ChangeSpec) : _root_.Go.OpenSpec := { _root_.Go.OpenSpec.ofChange s with cond := some uptoSmall }

/-- 'columbarylaw12.CollectTwice', WHERE WHAT IT READS IS OF BULK AT MOST 1048576: true; the input reads as it did. -/
def collectTwiceUptoRow : OpenClaim := { program := "ythnliekianmljaagreatdoor", sum := "fc0f0b566d83c5717ffd9aeaae9f58dfa3657db255b163130aee9017df5982d4", func := "columbary/columbarylaw12.CollectTwice", spec := "collectTwice", unfollowed := true, recurses := true, named := ["columbary/schema.Scalars"], apart := false, laid := [("columbary/schema.Scalars", laid_columbary_schema_Scalars)], narrowed := true }
def CollectTwiceUptoSaid : Prop := collectTwiceUptoRow.holds Tryz.pinned (OpenSpec.upto collectTwiceSpec)

/-- 'columbarylaw12.CollectAlways', WHERE WHAT IT READS IS OF BULK AT MOST 1048576: true; the input reads as it did. -/
def collectAlwaysUptoRow : OpenClaim := { program := "ythnliekianmljaagreatdoor", sum := "fc0f0b566d83c5717ffd9aeaae9f58dfa3657db255b163130aee9017df5982d4", func := "columbary/columbarylaw12.CollectAlways", spec := "collectAlways", unfollowed := true, recurses := true, named := ["columbary/schema.Scalars"], apart := false, laid := [("columbary/schema.Scalars", laid_columbary_schema_Scalars)], narrowed := true }
def CollectAlwaysUptoSaid : Prop := collectAlwaysUptoRow.holds Tryz.pinned (OpenSpec.upto collectAlwaysSpec)

/-- 'columbarylaw12.CollectTypes', WHERE WHAT IT READS IS OF BULK AT MOST 1048576: true; the input reads as it did. -/
def collectTypesUptoRow : OpenClaim := { program := "ythnliekianmljaagreatdoor", sum := "fc0f0b566d83c5717ffd9aeaae9f58dfa3657db255b163130aee9017df5982d4", func := "columbary/columbarylaw12.CollectTypes", spec := "collectTypes", unfollowed := true, recurses := true, named := ["columbary/schema.Scalars"], apart := false, laid := [("columbary/schema.Scalars", laid_columbary_schema_Scalars)], narrowed := true }
def CollectTypesUptoSaid : Prop := collectTypesUptoRow.holds Tryz.pinned (OpenSpec.upto collectTypesSpec)

/-- 'columbarylaw12.CollectOrder', WHERE WHAT IT READS IS OF BULK AT MOST 1048576: true; the input reads as it did. -/
def collectOrderUptoRow : OpenClaim := { program := "ythnliekianmljaagreatdoor", sum := "fc0f0b566d83c5717ffd9aeaae9f58dfa3657db255b163130aee9017df5982d4", func := "columbary/columbarylaw12.CollectOrder", spec := "collectOrder", unfollowed := true, recurses := true, named := ["columbary/schema.Scalars"], apart := false, laid := [("columbary/schema.Scalars", laid_columbary_schema_Scalars)], narrowed := true }
def CollectOrderUptoSaid : Prop := collectOrderUptoRow.holds Tryz.pinned (OpenSpec.upto collectOrderSpec)

/-- 'columbarylaw12.CollectOnce', WHERE WHAT IT READS IS OF BULK AT MOST 1048576: true; the input reads as it did. -/
def collectOnceUptoRow : OpenClaim := { program := "ythnliekianmljaagreatdoor", sum := "fc0f0b566d83c5717ffd9aeaae9f58dfa3657db255b163130aee9017df5982d4", func := "columbary/columbarylaw12.CollectOnce", spec := "collectOnce", unfollowed := true, recurses := true, named := ["columbary/schema.Scalars"], apart := false, laid := [("columbary/schema.Scalars", laid_columbary_schema_Scalars)], narrowed := true }
def CollectOnceUptoSaid : Prop := collectOnceUptoRow.holds Tryz.pinned (OpenSpec.upto collectOnceSpec)

/-- 'columbarylaw12.CollectFields', WHERE WHAT IT READS IS OF BULK AT MOST 1048576: true; the input reads as it did. -/
def collectFieldsUptoRow : OpenClaim := { program := "ythnliekianmljaagreatdoor", sum := "fc0f0b566d83c5717ffd9aeaae9f58dfa3657db255b163130aee9017df5982d4", func := "columbary/columbarylaw12.CollectFields", spec := "collectFields", unfollowed := true, recurses := true, named := ["columbary/schema.Scalars"], loops := true, apart := false, laid := [("columbary/schema.Scalars", laid_columbary_schema_Scalars)], narrowed := true }
def CollectFieldsUptoSaid : Prop := collectFieldsUptoRow.holds Tryz.pinned (OpenSpec.upto collectFieldsSpec)

end Rows
end Go.Proofs.YthnliekianmljaaGreatDoor
