/-
  NARROWER THAN 'FOR EVERY INPUT', by the rows' own cells (each row's printed sentence says how): SchemaTwice: laid · SchemaOrder: laid · SchemaMore: laid · SchemaPossible: laid · SchemaNil: loops, laid.
  DERIVED. THE GIVEN ROWS OF THIS SEAT. 5 by the template 'for every input the law returns true; each argument reads behind the call as it read before'; 0 by the template 'total and deterministic' (their statements: YtkfbiiedabbgfaaDoorTotals.lean).
  GIVEN WITH THE SEED: the statements are not yours to turn. If you find one false, say at which input.
  Laid BY PROGRAM, IN A SANDBOX (cutbox-rows.mjs): the forced cells as the released guide's own fill.sh prints them over the translation d9279ebb1c05cb98… (all of the seat's roots in one cut). By AI agents, Wed Nov 11 2026. No macro, syntax, notation, axiom, sorry.
-/
import Derived.Test.YtkfbiiedabbgfaaDoorChecked
import GoSem.Claim
import GoSem.ClaimJoined
import GoSem.ClaimMapViews
import Derived.JoinedTies
import Derived.KernelRfl
namespace Go.Proofs.YtkfbiiedabbgfaaDoor
/- THE CELL 'sum', in the pinned program and in every row, IS THE sha256 OF THE DUMP (.gsa) THAT YtkfbiiedabbgfaaDoorProg.lean LOADS. Nothing in Lean hashes anything: it is a label: what it is worth is what the hold of that sum in a sandbox is worth. -/
noncomputable def Tryd.pinned : Pinned := { name := "ytkfbiiedabbgfaadoor", sum := "d9279ebb1c05cb9894c7ae078f090c20e69abcaa61499c2ffc1fc0f6f46142cb", checked := Tryd.checked }
namespace Rows
def none {H : Type} : Left H := { results := [], args := [] }

/- WHAT THE LISTED PACKAGE-LEVEL VARIABLES READ AS WHEN THE CALL BEGINS. Each datum BY PROGRAM (the guide's laid-datum.mjs) off the statement by which the dump's own 'gosem.cut.vars' lays the variable. In a bare row this is a premise. The card (YtkfbiiedabbgfaaDoorCards.lean) ties it to the program's text. -/
def laid_columbary_schema_Scalars {H : Type} : DataW H := .agg [.lit (.string [66, 111, 111, 108, 101, 97, 110]), .lit (.string [73, 68]), .lit (.string [73, 110, 116]), .lit (.string [83, 116, 114, 105, 110, 103])]

/-- 'columbarylaw09.SchemaTwice': WHATEVER THE INPUT: true; the input reads as it did. -/
def schemaTwiceSpec : ChangeSpec := { name := "schemaTwice", fn := fun _ => fun
  | [d1, d2] => { results := [.lit (.bool true)], args := [d1, d2] }
  | _ => none }
def schemaTwiceRow : OpenClaim := { program := "ytkfbiiedabbgfaadoor", sum := "d9279ebb1c05cb9894c7ae078f090c20e69abcaa61499c2ffc1fc0f6f46142cb", func := "columbary/columbarylaw09.SchemaTwice", spec := "schemaTwice", unfollowed := true, recurses := true, named := ["columbary/schema.Scalars"], apart := false, laid := [("columbary/schema.Scalars", laid_columbary_schema_Scalars)] }
def SchemaTwiceSaid : Prop := schemaTwiceRow.holds Tryd.pinned (OpenSpec.ofChange schemaTwiceSpec)

/-- ITS FALSE NEIGHBOUR: 'it returns false'. Refute it at one input. -/
def schemaTwiceWrong : ChangeSpec := { name := "schemaTwice", fn := fun _ => fun
  | [d1, d2] => { results := [.lit (.bool false)], args := [d1, d2] }
  | _ => none }
def SchemaTwiceWrongFalsely : Prop := schemaTwiceRow.holds Tryd.pinned (OpenSpec.ofChange schemaTwiceWrong)

/-- 'columbarylaw09.SchemaOrder': WHATEVER THE INPUT: true; the input reads as it did. -/
def schemaOrderSpec : ChangeSpec := { name := "schemaOrder", fn := fun _ => fun
  | [d1, d2] => { results := [.lit (.bool true)], args := [d1, d2] }
  | _ => none }
def schemaOrderRow : OpenClaim := { program := "ytkfbiiedabbgfaadoor", sum := "d9279ebb1c05cb9894c7ae078f090c20e69abcaa61499c2ffc1fc0f6f46142cb", func := "columbary/columbarylaw09.SchemaOrder", spec := "schemaOrder", unfollowed := true, recurses := true, named := ["columbary/schema.Scalars"], apart := false, laid := [("columbary/schema.Scalars", laid_columbary_schema_Scalars)] }
def SchemaOrderSaid : Prop := schemaOrderRow.holds Tryd.pinned (OpenSpec.ofChange schemaOrderSpec)

/-- ITS FALSE NEIGHBOUR: 'it returns false'. Refute it at one input. -/
def schemaOrderWrong : ChangeSpec := { name := "schemaOrder", fn := fun _ => fun
  | [d1, d2] => { results := [.lit (.bool false)], args := [d1, d2] }
  | _ => none }
def SchemaOrderWrongFalsely : Prop := schemaOrderRow.holds Tryd.pinned (OpenSpec.ofChange schemaOrderWrong)

/-- 'columbarylaw09.SchemaMore': WHATEVER THE INPUT: true; the input reads as it did. -/
def schemaMoreSpec : ChangeSpec := { name := "schemaMore", fn := fun _ => fun
  | [d] => { results := [.lit (.bool true)], args := [d] }
  | _ => none }
def schemaMoreRow : OpenClaim := { program := "ytkfbiiedabbgfaadoor", sum := "d9279ebb1c05cb9894c7ae078f090c20e69abcaa61499c2ffc1fc0f6f46142cb", func := "columbary/columbarylaw09.SchemaMore", spec := "schemaMore", unfollowed := true, recurses := true, named := ["columbary/schema.Scalars"], apart := false, laid := [("columbary/schema.Scalars", laid_columbary_schema_Scalars)] }
def SchemaMoreSaid : Prop := schemaMoreRow.holds Tryd.pinned (OpenSpec.ofChange schemaMoreSpec)

/-- ITS FALSE NEIGHBOUR: 'it returns false'. Refute it at one input. -/
def schemaMoreWrong : ChangeSpec := { name := "schemaMore", fn := fun _ => fun
  | [d] => { results := [.lit (.bool false)], args := [d] }
  | _ => none }
def SchemaMoreWrongFalsely : Prop := schemaMoreRow.holds Tryd.pinned (OpenSpec.ofChange schemaMoreWrong)

/-- 'columbarylaw09.SchemaPossible': WHATEVER THE INPUT: true; the input reads as it did. -/
def schemaPossibleSpec : ChangeSpec := { name := "schemaPossible", fn := fun _ => fun
  | [d] => { results := [.lit (.bool true)], args := [d] }
  | _ => none }
def schemaPossibleRow : OpenClaim := { program := "ytkfbiiedabbgfaadoor", sum := "d9279ebb1c05cb9894c7ae078f090c20e69abcaa61499c2ffc1fc0f6f46142cb", func := "columbary/columbarylaw09.SchemaPossible", spec := "schemaPossible", unfollowed := true, recurses := true, named := ["columbary/schema.Scalars"], apart := false, laid := [("columbary/schema.Scalars", laid_columbary_schema_Scalars)] }
def SchemaPossibleSaid : Prop := schemaPossibleRow.holds Tryd.pinned (OpenSpec.ofChange schemaPossibleSpec)

/-- ITS FALSE NEIGHBOUR: 'it returns false'. Refute it at one input. -/
def schemaPossibleWrong : ChangeSpec := { name := "schemaPossible", fn := fun _ => fun
  | [d] => { results := [.lit (.bool false)], args := [d] }
  | _ => none }
def SchemaPossibleWrongFalsely : Prop := schemaPossibleRow.holds Tryd.pinned (OpenSpec.ofChange schemaPossibleWrong)

/-- 'columbarylaw09.SchemaNil': WHATEVER THE INPUT: true; the input reads as it did. -/
def schemaNilSpec : ChangeSpec := { name := "schemaNil", fn := fun _ => fun
  | [d1, d2] => { results := [.lit (.bool true)], args := [d1, d2] }
  | _ => none }
def schemaNilRow : OpenClaim := { program := "ytkfbiiedabbgfaadoor", sum := "d9279ebb1c05cb9894c7ae078f090c20e69abcaa61499c2ffc1fc0f6f46142cb", func := "columbary/columbarylaw09.SchemaNil", spec := "schemaNil", unfollowed := true, recurses := true, named := ["columbary/schema.Scalars"], loops := true, apart := false, laid := [("columbary/schema.Scalars", laid_columbary_schema_Scalars)] }
def SchemaNilSaid : Prop := schemaNilRow.holds Tryd.pinned (OpenSpec.ofChange schemaNilSpec)

/-- ITS FALSE NEIGHBOUR: 'it returns false'. Refute it at one input. -/
def schemaNilWrong : ChangeSpec := { name := "schemaNil", fn := fun _ => fun
  | [d1, d2] => { results := [.lit (.bool false)], args := [d1, d2] }
  | _ => none }
def SchemaNilWrongFalsely : Prop := schemaNilRow.holds Tryd.pinned (OpenSpec.ofChange schemaNilWrong)

/- THE SECOND FORM. 'bulk': how many values and letters a reading holds, each counted each time it is reached (what is shared counts as often as it is met; a slice's spare places count too). A statement '..UptoSaid' is the law's where the arguments, and the package variables that the reading takes, are together of bulk at most 1048576: NARROWER than '..Said'. Prove '..Said' where nothing that the law and all that it calls make is longer than what came in: it says more and counts as full. Else prove '..UptoSaid'. A law counts once. -/
mutual
def uptoBulk {H : Type} : DataW H → Nat
  | .lit (.string bytes) => bytes.length + 1
  | .lit _ => 1
  | .nil => 1
  | .ptr d => uptoBulk d + 1
  | .slice elems spare => uptoBulkAll elems + uptoBulkAll spare + 1
  | .agg parts => uptoBulkAll parts + 1
  | .iface _ d => uptoBulk d + 1
  | .map entries => uptoBulkEntries entries + 1
  | .held _ => 1
def uptoBulkAll {H : Type} : List (DataW H) → Nat
  | [] => 0
  | d :: r => uptoBulk d + uptoBulkAll r
def uptoBulkEntries {H : Type} : List (Lit × DataW H) → Nat
  | [] => 0
  | x :: r => uptoBulkEntry x + uptoBulkEntries r
def uptoBulkEntry {H : Type} : Lit × DataW H → Nat
  | (.string bytes, d) => bytes.length + uptoBulk d + 1
  | (_, d) => uptoBulk d + 1
 end
def uptoSmall : (H : Type) → List (DataW H) → Bool := fun _ ds => decide (uptoBulkAll ds ≤ 1048576)
def OpenSpec.upto (s : _root_.Go.ChangeSpec) : _root_.Go.OpenSpec := { _root_.Go.OpenSpec.ofChange s with cond := some uptoSmall }

/-- 'columbarylaw09.SchemaTwice', WHERE WHAT IT READS IS OF BULK AT MOST 1048576: true; the input reads as it did. -/
def schemaTwiceUptoRow : OpenClaim := { program := "ytkfbiiedabbgfaadoor", sum := "d9279ebb1c05cb9894c7ae078f090c20e69abcaa61499c2ffc1fc0f6f46142cb", func := "columbary/columbarylaw09.SchemaTwice", spec := "schemaTwice", unfollowed := true, recurses := true, named := ["columbary/schema.Scalars"], apart := false, laid := [("columbary/schema.Scalars", laid_columbary_schema_Scalars)], narrowed := true }
def SchemaTwiceUptoSaid : Prop := schemaTwiceUptoRow.holds Tryd.pinned (OpenSpec.upto schemaTwiceSpec)

/-- 'columbarylaw09.SchemaOrder', WHERE WHAT IT READS IS OF BULK AT MOST 1048576: true; the input reads as it did. -/
def schemaOrderUptoRow : OpenClaim := { program := "ytkfbiiedabbgfaadoor", sum := "d9279ebb1c05cb9894c7ae078f090c20e69abcaa61499c2ffc1fc0f6f46142cb", func := "columbary/columbarylaw09.SchemaOrder", spec := "schemaOrder", unfollowed := true, recurses := true, named := ["columbary/schema.Scalars"], apart := false, laid := [("columbary/schema.Scalars", laid_columbary_schema_Scalars)], narrowed := true }
def SchemaOrderUptoSaid : Prop := schemaOrderUptoRow.holds Tryd.pinned (OpenSpec.upto schemaOrderSpec)

/-- 'columbarylaw09.SchemaMore', WHERE WHAT IT READS IS OF BULK AT MOST 1048576: true; the input reads as it did. -/
def schemaMoreUptoRow : OpenClaim := { program := "ytkfbiiedabbgfaadoor", sum := "d9279ebb1c05cb9894c7ae078f090c20e69abcaa61499c2ffc1fc0f6f46142cb", func := "columbary/columbarylaw09.SchemaMore", spec := "schemaMore", unfollowed := true, recurses := true, named := ["columbary/schema.Scalars"], apart := false, laid := [("columbary/schema.Scalars", laid_columbary_schema_Scalars)], narrowed := true }
def SchemaMoreUptoSaid : Prop := schemaMoreUptoRow.holds Tryd.pinned (OpenSpec.upto schemaMoreSpec)

/-- 'columbarylaw09.SchemaPossible', WHERE WHAT IT READS IS OF BULK AT MOST 1048576: true; the input reads as it did. -/
def schemaPossibleUptoRow : OpenClaim := { program := "ytkfbiiedabbgfaadoor", sum := "d9279ebb1c05cb9894c7ae078f090c20e69abcaa61499c2ffc1fc0f6f46142cb", func := "columbary/columbarylaw09.SchemaPossible", spec := "schemaPossible", unfollowed := true, recurses := true, named := ["columbary/schema.Scalars"], apart := false, laid := [("columbary/schema.Scalars", laid_columbary_schema_Scalars)], narrowed := true }
def SchemaPossibleUptoSaid : Prop := schemaPossibleUptoRow.holds Tryd.pinned (OpenSpec.upto schemaPossibleSpec)

/-- 'columbarylaw09.SchemaNil', WHERE WHAT IT READS IS OF BULK AT MOST 1048576: true; the input reads as it did. -/
def schemaNilUptoRow : OpenClaim := { program := "ytkfbiiedabbgfaadoor", sum := "d9279ebb1c05cb9894c7ae078f090c20e69abcaa61499c2ffc1fc0f6f46142cb", func := "columbary/columbarylaw09.SchemaNil", spec := "schemaNil", unfollowed := true, recurses := true, named := ["columbary/schema.Scalars"], loops := true, apart := false, laid := [("columbary/schema.Scalars", laid_columbary_schema_Scalars)], narrowed := true }
def SchemaNilUptoSaid : Prop := schemaNilUptoRow.holds Tryd.pinned (OpenSpec.upto schemaNilSpec)

end Rows
end Go.Proofs.YtkfbiiedabbgfaaDoor
