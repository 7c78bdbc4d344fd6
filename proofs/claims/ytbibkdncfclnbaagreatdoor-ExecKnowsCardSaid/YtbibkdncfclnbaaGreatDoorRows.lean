/-
  NARROWER THAN 'FOR EVERY INPUT', by the rows' own cells (each row's printed sentence says how): ExecKnows: laid · ExecAlias: laid · ExecNulls: laid · ExecLong: laid · ExecSkips: laid · ExecParts: laid · ExecKeeps: laid · ExecStores: laid.
  DERIVED. THE GIVEN ROWS OF THIS SEAT. 8 by the template 'for every input the law returns true; each argument reads behind the call as it read before'; 0 by the template 'total and deterministic' (their statements: YtbibkdncfclnbaaGreatDoorTotals.lean).
  GIVEN WITH THE SEED: the statements are not yours to turn. If you find one false, say at which input.
  Laid BY PROGRAM, IN A SANDBOX (cutbox-rows.mjs): the forced cells as the released guide's own fill.sh prints them over the translation 9cbf5a94a1510cb3… (all of the seat's roots in one cut). By AI agents, Wed Nov 11 2026. No macro, syntax, notation, axiom, sorry.
-/
import Derived.Test.YtbibkdncfclnbaaGreatDoorChecked
import GoSem.Claim
import GoSem.ClaimJoined
import GoSem.ClaimMapViews
import Derived.JoinedTies
import Derived.KernelRfl
namespace Go.Proofs.YtbibkdncfclnbaaGreatDoor
/- THE CELL 'sum', in the pinned program and in every row, IS THE sha256 OF THE DUMP (.gsa) THAT YtbibkdncfclnbaaGreatDoorProg.lean LOADS. Nothing in Lean hashes anything: it is a label: what it is worth is what the hold of that sum in a sandbox is worth. -/
noncomputable def Tryz.pinned : Pinned := { name := "ytbibkdncfclnbaagreatdoor", sum := "9cbf5a94a1510cb38ac24180709d6cfa961e9040bf00fcbaa5f6a31a03c46cbe", checked := Tryz.checked }
namespace Rows
def none {H : Type} : Left H := { results := [], args := [] }

/- WHAT THE LISTED PACKAGE-LEVEL VARIABLES READ AS WHEN THE CALL BEGINS. Each datum BY PROGRAM (the guide's laid-datum.mjs) off the statement by which the dump's own 'gosem.cut.vars' lays the variable. In a bare row this is a premise. The card (YtbibkdncfclnbaaGreatDoorCards.lean) ties it to the program's text. -/
def laid_math_bits_deBruijn32tab {H : Type} : DataW H := .agg [.lit (.int .u8 0), .lit (.int .u8 1), .lit (.int .u8 28), .lit (.int .u8 2), .lit (.int .u8 29), .lit (.int .u8 14), .lit (.int .u8 24), .lit (.int .u8 3), .lit (.int .u8 30), .lit (.int .u8 22), .lit (.int .u8 20), .lit (.int .u8 15), .lit (.int .u8 25), .lit (.int .u8 17), .lit (.int .u8 4), .lit (.int .u8 8), .lit (.int .u8 31), .lit (.int .u8 27), .lit (.int .u8 13), .lit (.int .u8 23), .lit (.int .u8 21), .lit (.int .u8 19), .lit (.int .u8 16), .lit (.int .u8 7), .lit (.int .u8 26), .lit (.int .u8 12), .lit (.int .u8 18), .lit (.int .u8 6), .lit (.int .u8 11), .lit (.int .u8 5), .lit (.int .u8 10), .lit (.int .u8 9)]
def laid_math_bits_deBruijn64tab {H : Type} : DataW H := .agg [.lit (.int .u8 0), .lit (.int .u8 1), .lit (.int .u8 56), .lit (.int .u8 2), .lit (.int .u8 57), .lit (.int .u8 49), .lit (.int .u8 28), .lit (.int .u8 3), .lit (.int .u8 61), .lit (.int .u8 58), .lit (.int .u8 42), .lit (.int .u8 50), .lit (.int .u8 38), .lit (.int .u8 29), .lit (.int .u8 17), .lit (.int .u8 4), .lit (.int .u8 62), .lit (.int .u8 47), .lit (.int .u8 59), .lit (.int .u8 36), .lit (.int .u8 45), .lit (.int .u8 43), .lit (.int .u8 51), .lit (.int .u8 22), .lit (.int .u8 53), .lit (.int .u8 39), .lit (.int .u8 33), .lit (.int .u8 30), .lit (.int .u8 24), .lit (.int .u8 18), .lit (.int .u8 12), .lit (.int .u8 5), .lit (.int .u8 63), .lit (.int .u8 55), .lit (.int .u8 48), .lit (.int .u8 27), .lit (.int .u8 60), .lit (.int .u8 41), .lit (.int .u8 37), .lit (.int .u8 16), .lit (.int .u8 46), .lit (.int .u8 35), .lit (.int .u8 44), .lit (.int .u8 21), .lit (.int .u8 52), .lit (.int .u8 32), .lit (.int .u8 23), .lit (.int .u8 11), .lit (.int .u8 54), .lit (.int .u8 26), .lit (.int .u8 40), .lit (.int .u8 15), .lit (.int .u8 34), .lit (.int .u8 20), .lit (.int .u8 31), .lit (.int .u8 10), .lit (.int .u8 25), .lit (.int .u8 14), .lit (.int .u8 19), .lit (.int .u8 9), .lit (.int .u8 13), .lit (.int .u8 8), .lit (.int .u8 7), .lit (.int .u8 6)]
def laid_internal_strconv_uint64pow10 {H : Type} : DataW H := .agg [.lit (.int .u64 1), .lit (.int .u64 10), .lit (.int .u64 100), .lit (.int .u64 1000), .lit (.int .u64 10000), .lit (.int .u64 100000), .lit (.int .u64 1000000), .lit (.int .u64 10000000), .lit (.int .u64 100000000), .lit (.int .u64 1000000000), .lit (.int .u64 10000000000), .lit (.int .u64 100000000000), .lit (.int .u64 1000000000000), .lit (.int .u64 10000000000000), .lit (.int .u64 100000000000000), .lit (.int .u64 1000000000000000), .lit (.int .u64 10000000000000000), .lit (.int .u64 100000000000000000), .lit (.int .u64 1000000000000000000), .lit (.int .u64 10000000000000000000)]
def laid_columbary_schema_Scalars {H : Type} : DataW H := .agg [.lit (.string [66, 111, 111, 108, 101, 97, 110]), .lit (.string [73, 68]), .lit (.string [73, 110, 116]), .lit (.string [83, 116, 114, 105, 110, 103])]

/-- 'columbarylaw13.ExecKnows': WHATEVER THE INPUT: true; the input reads as it did. -/
def execKnowsSpec : ChangeSpec := { name := "execKnows", fn := fun _ => fun
  | [d1, d2, d3] => { results := [.lit (.bool true)], args := [d1, d2, d3] }
  | _ => none }
def execKnowsRow : OpenClaim := { program := "ytbibkdncfclnbaagreatdoor", sum := "9cbf5a94a1510cb38ac24180709d6cfa961e9040bf00fcbaa5f6a31a03c46cbe", func := "columbary/columbarylaw13.ExecKnows", spec := "execKnows", inPlace := ["slices.overlaps[columbary/api.Entity]"], unfollowed := true, recurses := true, named := ["columbary/schema.Scalars", "internal/strconv.uint64pow10", "math/bits.deBruijn32tab", "math/bits.deBruijn64tab"], apart := false, laid := [("math/bits.deBruijn32tab", laid_math_bits_deBruijn32tab), ("math/bits.deBruijn64tab", laid_math_bits_deBruijn64tab), ("internal/strconv.uint64pow10", laid_internal_strconv_uint64pow10), ("columbary/schema.Scalars", laid_columbary_schema_Scalars)] }
def ExecKnowsSaid : Prop := execKnowsRow.holds Tryz.pinned (OpenSpec.ofChange execKnowsSpec)

/-- ITS FALSE NEIGHBOUR: 'it returns false'. Refute it at one input. -/
def execKnowsWrong : ChangeSpec := { name := "execKnows", fn := fun _ => fun
  | [d1, d2, d3] => { results := [.lit (.bool false)], args := [d1, d2, d3] }
  | _ => none }
def ExecKnowsWrongFalsely : Prop := execKnowsRow.holds Tryz.pinned (OpenSpec.ofChange execKnowsWrong)

/-- 'columbarylaw13.ExecAlias': WHATEVER THE INPUT: true; the input reads as it did. -/
def execAliasSpec : ChangeSpec := { name := "execAlias", fn := fun _ => fun
  | [d1, d2] => { results := [.lit (.bool true)], args := [d1, d2] }
  | _ => none }
def execAliasRow : OpenClaim := { program := "ytbibkdncfclnbaagreatdoor", sum := "9cbf5a94a1510cb38ac24180709d6cfa961e9040bf00fcbaa5f6a31a03c46cbe", func := "columbary/columbarylaw13.ExecAlias", spec := "execAlias", inPlace := ["slices.overlaps[columbary/api.Entity]"], unfollowed := true, recurses := true, named := ["columbary/schema.Scalars", "internal/strconv.uint64pow10", "math/bits.deBruijn32tab", "math/bits.deBruijn64tab"], apart := false, laid := [("math/bits.deBruijn32tab", laid_math_bits_deBruijn32tab), ("math/bits.deBruijn64tab", laid_math_bits_deBruijn64tab), ("internal/strconv.uint64pow10", laid_internal_strconv_uint64pow10), ("columbary/schema.Scalars", laid_columbary_schema_Scalars)] }
def ExecAliasSaid : Prop := execAliasRow.holds Tryz.pinned (OpenSpec.ofChange execAliasSpec)

/-- ITS FALSE NEIGHBOUR: 'it returns false'. Refute it at one input. -/
def execAliasWrong : ChangeSpec := { name := "execAlias", fn := fun _ => fun
  | [d1, d2] => { results := [.lit (.bool false)], args := [d1, d2] }
  | _ => none }
def ExecAliasWrongFalsely : Prop := execAliasRow.holds Tryz.pinned (OpenSpec.ofChange execAliasWrong)

/-- 'columbarylaw13.ExecNulls': WHATEVER THE INPUT: true; the input reads as it did. -/
def execNullsSpec : ChangeSpec := { name := "execNulls", fn := fun _ => fun
  | [d] => { results := [.lit (.bool true)], args := [d] }
  | _ => none }
def execNullsRow : OpenClaim := { program := "ytbibkdncfclnbaagreatdoor", sum := "9cbf5a94a1510cb38ac24180709d6cfa961e9040bf00fcbaa5f6a31a03c46cbe", func := "columbary/columbarylaw13.ExecNulls", spec := "execNulls", inPlace := ["slices.overlaps[columbary/api.Entity]"], unfollowed := true, recurses := true, named := ["columbary/schema.Scalars", "internal/strconv.uint64pow10", "math/bits.deBruijn32tab", "math/bits.deBruijn64tab"], apart := false, laid := [("math/bits.deBruijn32tab", laid_math_bits_deBruijn32tab), ("math/bits.deBruijn64tab", laid_math_bits_deBruijn64tab), ("internal/strconv.uint64pow10", laid_internal_strconv_uint64pow10), ("columbary/schema.Scalars", laid_columbary_schema_Scalars)] }
def ExecNullsSaid : Prop := execNullsRow.holds Tryz.pinned (OpenSpec.ofChange execNullsSpec)

/-- ITS FALSE NEIGHBOUR: 'it returns false'. Refute it at one input. -/
def execNullsWrong : ChangeSpec := { name := "execNulls", fn := fun _ => fun
  | [d] => { results := [.lit (.bool false)], args := [d] }
  | _ => none }
def ExecNullsWrongFalsely : Prop := execNullsRow.holds Tryz.pinned (OpenSpec.ofChange execNullsWrong)

/-- 'columbarylaw13.ExecLong': WHATEVER THE INPUT: true; the input reads as it did. -/
def execLongSpec : ChangeSpec := { name := "execLong", fn := fun _ => fun
  | [d] => { results := [.lit (.bool true)], args := [d] }
  | _ => none }
def execLongRow : OpenClaim := { program := "ytbibkdncfclnbaagreatdoor", sum := "9cbf5a94a1510cb38ac24180709d6cfa961e9040bf00fcbaa5f6a31a03c46cbe", func := "columbary/columbarylaw13.ExecLong", spec := "execLong", inPlace := ["slices.overlaps[columbary/api.Entity]"], unfollowed := true, recurses := true, named := ["columbary/schema.Scalars", "internal/strconv.uint64pow10", "math/bits.deBruijn32tab", "math/bits.deBruijn64tab"], apart := false, laid := [("math/bits.deBruijn32tab", laid_math_bits_deBruijn32tab), ("math/bits.deBruijn64tab", laid_math_bits_deBruijn64tab), ("internal/strconv.uint64pow10", laid_internal_strconv_uint64pow10), ("columbary/schema.Scalars", laid_columbary_schema_Scalars)] }
def ExecLongSaid : Prop := execLongRow.holds Tryz.pinned (OpenSpec.ofChange execLongSpec)

/-- ITS FALSE NEIGHBOUR: 'it returns false'. Refute it at one input. -/
def execLongWrong : ChangeSpec := { name := "execLong", fn := fun _ => fun
  | [d] => { results := [.lit (.bool false)], args := [d] }
  | _ => none }
def ExecLongWrongFalsely : Prop := execLongRow.holds Tryz.pinned (OpenSpec.ofChange execLongWrong)

/-- 'columbarylaw13.ExecSkips': WHATEVER THE INPUT: true; the input reads as it did. -/
def execSkipsSpec : ChangeSpec := { name := "execSkips", fn := fun _ => fun
  | [d1, d2] => { results := [.lit (.bool true)], args := [d1, d2] }
  | _ => none }
def execSkipsRow : OpenClaim := { program := "ytbibkdncfclnbaagreatdoor", sum := "9cbf5a94a1510cb38ac24180709d6cfa961e9040bf00fcbaa5f6a31a03c46cbe", func := "columbary/columbarylaw13.ExecSkips", spec := "execSkips", inPlace := ["slices.overlaps[columbary/api.Entity]"], unfollowed := true, recurses := true, named := ["columbary/schema.Scalars", "internal/strconv.uint64pow10", "math/bits.deBruijn32tab", "math/bits.deBruijn64tab"], apart := false, laid := [("math/bits.deBruijn32tab", laid_math_bits_deBruijn32tab), ("math/bits.deBruijn64tab", laid_math_bits_deBruijn64tab), ("internal/strconv.uint64pow10", laid_internal_strconv_uint64pow10), ("columbary/schema.Scalars", laid_columbary_schema_Scalars)] }
def ExecSkipsSaid : Prop := execSkipsRow.holds Tryz.pinned (OpenSpec.ofChange execSkipsSpec)

/-- ITS FALSE NEIGHBOUR: 'it returns false'. Refute it at one input. -/
def execSkipsWrong : ChangeSpec := { name := "execSkips", fn := fun _ => fun
  | [d1, d2] => { results := [.lit (.bool false)], args := [d1, d2] }
  | _ => none }
def ExecSkipsWrongFalsely : Prop := execSkipsRow.holds Tryz.pinned (OpenSpec.ofChange execSkipsWrong)

/-- 'columbarylaw13.ExecParts': WHATEVER THE INPUT: true; the input reads as it did. -/
def execPartsSpec : ChangeSpec := { name := "execParts", fn := fun _ => fun
  | [d1, d2, d3] => { results := [.lit (.bool true)], args := [d1, d2, d3] }
  | _ => none }
def execPartsRow : OpenClaim := { program := "ytbibkdncfclnbaagreatdoor", sum := "9cbf5a94a1510cb38ac24180709d6cfa961e9040bf00fcbaa5f6a31a03c46cbe", func := "columbary/columbarylaw13.ExecParts", spec := "execParts", inPlace := ["slices.overlaps[columbary/api.Entity]"], unfollowed := true, recurses := true, named := ["columbary/schema.Scalars", "internal/strconv.uint64pow10", "math/bits.deBruijn32tab", "math/bits.deBruijn64tab"], apart := false, laid := [("math/bits.deBruijn32tab", laid_math_bits_deBruijn32tab), ("math/bits.deBruijn64tab", laid_math_bits_deBruijn64tab), ("internal/strconv.uint64pow10", laid_internal_strconv_uint64pow10), ("columbary/schema.Scalars", laid_columbary_schema_Scalars)] }
def ExecPartsSaid : Prop := execPartsRow.holds Tryz.pinned (OpenSpec.ofChange execPartsSpec)

/-- ITS FALSE NEIGHBOUR: 'it returns false'. Refute it at one input. -/
def execPartsWrong : ChangeSpec := { name := "execParts", fn := fun _ => fun
  | [d1, d2, d3] => { results := [.lit (.bool false)], args := [d1, d2, d3] }
  | _ => none }
def ExecPartsWrongFalsely : Prop := execPartsRow.holds Tryz.pinned (OpenSpec.ofChange execPartsWrong)

/-- 'columbarylaw13.ExecKeeps': WHATEVER THE INPUT: true; the input reads as it did. -/
def execKeepsSpec : ChangeSpec := { name := "execKeeps", fn := fun _ => fun
  | [d1, d2] => { results := [.lit (.bool true)], args := [d1, d2] }
  | _ => none }
def execKeepsRow : OpenClaim := { program := "ytbibkdncfclnbaagreatdoor", sum := "9cbf5a94a1510cb38ac24180709d6cfa961e9040bf00fcbaa5f6a31a03c46cbe", func := "columbary/columbarylaw13.ExecKeeps", spec := "execKeeps", inPlace := ["slices.overlaps[columbary/api.Entity]"], unfollowed := true, recurses := true, named := ["columbary/schema.Scalars", "internal/strconv.uint64pow10", "math/bits.deBruijn32tab", "math/bits.deBruijn64tab"], apart := false, laid := [("math/bits.deBruijn32tab", laid_math_bits_deBruijn32tab), ("math/bits.deBruijn64tab", laid_math_bits_deBruijn64tab), ("internal/strconv.uint64pow10", laid_internal_strconv_uint64pow10), ("columbary/schema.Scalars", laid_columbary_schema_Scalars)] }
def ExecKeepsSaid : Prop := execKeepsRow.holds Tryz.pinned (OpenSpec.ofChange execKeepsSpec)

/-- ITS FALSE NEIGHBOUR: 'it returns false'. Refute it at one input. -/
def execKeepsWrong : ChangeSpec := { name := "execKeeps", fn := fun _ => fun
  | [d1, d2] => { results := [.lit (.bool false)], args := [d1, d2] }
  | _ => none }
def ExecKeepsWrongFalsely : Prop := execKeepsRow.holds Tryz.pinned (OpenSpec.ofChange execKeepsWrong)

/-- 'columbarylaw13.ExecStores': WHATEVER THE INPUT: true; the input reads as it did. -/
def execStoresSpec : ChangeSpec := { name := "execStores", fn := fun _ => fun
  | [d1, d2] => { results := [.lit (.bool true)], args := [d1, d2] }
  | _ => none }
def execStoresRow : OpenClaim := { program := "ytbibkdncfclnbaagreatdoor", sum := "9cbf5a94a1510cb38ac24180709d6cfa961e9040bf00fcbaa5f6a31a03c46cbe", func := "columbary/columbarylaw13.ExecStores", spec := "execStores", inPlace := ["slices.overlaps[columbary/api.Entity]"], unfollowed := true, recurses := true, named := ["columbary/schema.Scalars", "internal/strconv.uint64pow10", "math/bits.deBruijn32tab", "math/bits.deBruijn64tab"], apart := false, laid := [("math/bits.deBruijn32tab", laid_math_bits_deBruijn32tab), ("math/bits.deBruijn64tab", laid_math_bits_deBruijn64tab), ("internal/strconv.uint64pow10", laid_internal_strconv_uint64pow10), ("columbary/schema.Scalars", laid_columbary_schema_Scalars)] }
def ExecStoresSaid : Prop := execStoresRow.holds Tryz.pinned (OpenSpec.ofChange execStoresSpec)

/-- ITS FALSE NEIGHBOUR: 'it returns false'. Refute it at one input. -/
def execStoresWrong : ChangeSpec := { name := "execStores", fn := fun _ => fun
  | [d1, d2] => { results := [.lit (.bool false)], args := [d1, d2] }
  | _ => none }
def ExecStoresWrongFalsely : Prop := execStoresRow.holds Tryz.pinned (OpenSpec.ofChange execStoresWrong)

/- THE SECOND FORM. 'bulk': how many values and letters a reading holds, each counted each time it is reached (what is shared counts as often as it is met; a slice's spare places count too). A statement '..UptoSaid' is the law's where the arguments, and the package variables that the reading takes, are together of bulk at most 1048576: NARROWER than '..Said'. Prove '..Said' where nothing that the law and all that it calls make is longer than what came in: it says more and counts as full. Else prove '..UptoSaid'. A law counts once. -/
mutual
def uptoBulk {H : Type} : DataW H → Nat
  | .lit (.string bytes) => bytes.length + 1
  | .lit _ => 1
  | .nil => 1
  | .ptr d => uptoBulk d + 1
  | .slice elems spare => uptoBulkAll elems + uptoBulkAll spare + 1
  | .agg parts => uptoBulkAll parts + 1
  | .iface _ d => uptoBulk d + 1
  | .map entries => uptoBulkEntries entries + 1
  | .held _ => 1
def uptoBulkAll {H : Type} : List (DataW H) → Nat
  | [] => 0
  | d :: r => uptoBulk d + uptoBulkAll r
def uptoBulkEntries {H : Type} : List (Lit × DataW H) → Nat
  | [] => 0
  | x :: r => uptoBulkEntry x + uptoBulkEntries r
def uptoBulkEntry {H : Type} : Lit × DataW H → Nat
  | (.string bytes, d) => bytes.length + uptoBulk d + 1
  | (_, d) => uptoBulk d + 1
 end
def uptoSmall : (H : Type) → List (DataW H) → Bool := fun _ ds => decide (uptoBulkAll ds ≤ 1048576)
def OpenSpec.upto (s : _root_.Go.ChangeSpec) : _root_.Go.OpenSpec := { _root_.Go.OpenSpec.ofChange s with cond := some uptoSmall }

/-- 'columbarylaw13.ExecKnows', WHERE WHAT IT READS IS OF BULK AT MOST 1048576: true; the input reads as it did. -/
def execKnowsUptoRow : OpenClaim := { program := "ytbibkdncfclnbaagreatdoor", sum := "9cbf5a94a1510cb38ac24180709d6cfa961e9040bf00fcbaa5f6a31a03c46cbe", func := "columbary/columbarylaw13.ExecKnows", spec := "execKnows", inPlace := ["slices.overlaps[columbary/api.Entity]"], unfollowed := true, recurses := true, named := ["columbary/schema.Scalars", "internal/strconv.uint64pow10", "math/bits.deBruijn32tab", "math/bits.deBruijn64tab"], apart := false, laid := [("math/bits.deBruijn32tab", laid_math_bits_deBruijn32tab), ("math/bits.deBruijn64tab", laid_math_bits_deBruijn64tab), ("internal/strconv.uint64pow10", laid_internal_strconv_uint64pow10), ("columbary/schema.Scalars", laid_columbary_schema_Scalars)], narrowed := true }
def ExecKnowsUptoSaid : Prop := execKnowsUptoRow.holds Tryz.pinned (OpenSpec.upto execKnowsSpec)

/-- 'columbarylaw13.ExecAlias', WHERE WHAT IT READS IS OF BULK AT MOST 1048576: true; the input reads as it did. -/
def execAliasUptoRow : OpenClaim := { program := "ytbibkdncfclnbaagreatdoor", sum := "9cbf5a94a1510cb38ac24180709d6cfa961e9040bf00fcbaa5f6a31a03c46cbe", func := "columbary/columbarylaw13.ExecAlias", spec := "execAlias", inPlace := ["slices.overlaps[columbary/api.Entity]"], unfollowed := true, recurses := true, named := ["columbary/schema.Scalars", "internal/strconv.uint64pow10", "math/bits.deBruijn32tab", "math/bits.deBruijn64tab"], apart := false, laid := [("math/bits.deBruijn32tab", laid_math_bits_deBruijn32tab), ("math/bits.deBruijn64tab", laid_math_bits_deBruijn64tab), ("internal/strconv.uint64pow10", laid_internal_strconv_uint64pow10), ("columbary/schema.Scalars", laid_columbary_schema_Scalars)], narrowed := true }
def ExecAliasUptoSaid : Prop := execAliasUptoRow.holds Tryz.pinned (OpenSpec.upto execAliasSpec)

/-- 'columbarylaw13.ExecNulls', WHERE WHAT IT READS IS OF BULK AT MOST 1048576: true; the input reads as it did. -/
def execNullsUptoRow : OpenClaim := { program := "ytbibkdncfclnbaagreatdoor", sum := "9cbf5a94a1510cb38ac24180709d6cfa961e9040bf00fcbaa5f6a31a03c46cbe", func := "columbary/columbarylaw13.ExecNulls", spec := "execNulls", inPlace := ["slices.overlaps[columbary/api.Entity]"], unfollowed := true, recurses := true, named := ["columbary/schema.Scalars", "internal/strconv.uint64pow10", "math/bits.deBruijn32tab", "math/bits.deBruijn64tab"], apart := false, laid := [("math/bits.deBruijn32tab", laid_math_bits_deBruijn32tab), ("math/bits.deBruijn64tab", laid_math_bits_deBruijn64tab), ("internal/strconv.uint64pow10", laid_internal_strconv_uint64pow10), ("columbary/schema.Scalars", laid_columbary_schema_Scalars)], narrowed := true }
def ExecNullsUptoSaid : Prop := execNullsUptoRow.holds Tryz.pinned (OpenSpec.upto execNullsSpec)

/-- 'columbarylaw13.ExecLong', WHERE WHAT IT READS IS OF BULK AT MOST 1048576: true; the input reads as it did. -/
def execLongUptoRow : OpenClaim := { program := "ytbibkdncfclnbaagreatdoor", sum := "9cbf5a94a1510cb38ac24180709d6cfa961e9040bf00fcbaa5f6a31a03c46cbe", func := "columbary/columbarylaw13.ExecLong", spec := "execLong", inPlace := ["slices.overlaps[columbary/api.Entity]"], unfollowed := true, recurses := true, named := ["columbary/schema.Scalars", "internal/strconv.uint64pow10", "math/bits.deBruijn32tab", "math/bits.deBruijn64tab"], apart := false, laid := [("math/bits.deBruijn32tab", laid_math_bits_deBruijn32tab), ("math/bits.deBruijn64tab", laid_math_bits_deBruijn64tab), ("internal/strconv.uint64pow10", laid_internal_strconv_uint64pow10), ("columbary/schema.Scalars", laid_columbary_schema_Scalars)], narrowed := true }
def ExecLongUptoSaid : Prop := execLongUptoRow.holds Tryz.pinned (OpenSpec.upto execLongSpec)

/-- 'columbarylaw13.ExecSkips', WHERE WHAT IT READS IS OF BULK AT MOST 1048576: true; the input reads as it did. -/
def execSkipsUptoRow : OpenClaim := { program := "ytbibkdncfclnbaagreatdoor", sum := "9cbf5a94a1510cb38ac24180709d6cfa961e9040bf00fcbaa5f6a31a03c46cbe", func := "columbary/columbarylaw13.ExecSkips", spec := "execSkips", inPlace := ["slices.overlaps[columbary/api.Entity]"], unfollowed := true, recurses := true, named := ["columbary/schema.Scalars", "internal/strconv.uint64pow10", "math/bits.deBruijn32tab", "math/bits.deBruijn64tab"], apart := false, laid := [("math/bits.deBruijn32tab", laid_math_bits_deBruijn32tab), ("math/bits.deBruijn64tab", laid_math_bits_deBruijn64tab), ("internal/strconv.uint64pow10", laid_internal_strconv_uint64pow10), ("columbary/schema.Scalars", laid_columbary_schema_Scalars)], narrowed := true }
def ExecSkipsUptoSaid : Prop := execSkipsUptoRow.holds Tryz.pinned (OpenSpec.upto execSkipsSpec)

/-- 'columbarylaw13.ExecParts', WHERE WHAT IT READS IS OF BULK AT MOST 1048576: true; the input reads as it did. -/
def execPartsUptoRow : OpenClaim := { program := "ytbibkdncfclnbaagreatdoor", sum := "9cbf5a94a1510cb38ac24180709d6cfa961e9040bf00fcbaa5f6a31a03c46cbe", func := "columbary/columbarylaw13.ExecParts", spec := "execParts", inPlace := ["slices.overlaps[columbary/api.Entity]"], unfollowed := true, recurses := true, named := ["columbary/schema.Scalars", "internal/strconv.uint64pow10", "math/bits.deBruijn32tab", "math/bits.deBruijn64tab"], apart := false, laid := [("math/bits.deBruijn32tab", laid_math_bits_deBruijn32tab), ("math/bits.deBruijn64tab", laid_math_bits_deBruijn64tab), ("internal/strconv.uint64pow10", laid_internal_strconv_uint64pow10), ("columbary/schema.Scalars", laid_columbary_schema_Scalars)], narrowed := true }
def ExecPartsUptoSaid : Prop := execPartsUptoRow.holds Tryz.pinned (OpenSpec.upto execPartsSpec)

/-- 'columbarylaw13.ExecKeeps', WHERE WHAT IT READS IS OF BULK AT MOST 1048576: true; the input reads as it did. -/
def execKeepsUptoRow : OpenClaim := { program := "ytbibkdncfclnbaagreatdoor", sum := "9cbf5a94a1510cb38ac24180709d6cfa961e9040bf00fcbaa5f6a31a03c46cbe", func := "columbary/columbarylaw13.ExecKeeps", spec := "execKeeps", inPlace := ["slices.overlaps[columbary/api.Entity]"], unfollowed := true, recurses := true, named := ["columbary/schema.Scalars", "internal/strconv.uint64pow10", "math/bits.deBruijn32tab", "math/bits.deBruijn64tab"], apart := false, laid := [("math/bits.deBruijn32tab", laid_math_bits_deBruijn32tab), ("math/bits.deBruijn64tab", laid_math_bits_deBruijn64tab), ("internal/strconv.uint64pow10", laid_internal_strconv_uint64pow10), ("columbary/schema.Scalars", laid_columbary_schema_Scalars)], narrowed := true }
def ExecKeepsUptoSaid : Prop := execKeepsUptoRow.holds Tryz.pinned (OpenSpec.upto execKeepsSpec)

/-- 'columbarylaw13.ExecStores', WHERE WHAT IT READS IS OF BULK AT MOST 1048576: true; the input reads as it did. -/
def execStoresUptoRow : OpenClaim := { program := "ytbibkdncfclnbaagreatdoor", sum := "9cbf5a94a1510cb38ac24180709d6cfa961e9040bf00fcbaa5f6a31a03c46cbe", func := "columbary/columbarylaw13.ExecStores", spec := "execStores", inPlace := ["slices.overlaps[columbary/api.Entity]"], unfollowed := true, recurses := true, named := ["columbary/schema.Scalars", "internal/strconv.uint64pow10", "math/bits.deBruijn32tab", "math/bits.deBruijn64tab"], apart := false, laid := [("math/bits.deBruijn32tab", laid_math_bits_deBruijn32tab), ("math/bits.deBruijn64tab", laid_math_bits_deBruijn64tab), ("internal/strconv.uint64pow10", laid_internal_strconv_uint64pow10), ("columbary/schema.Scalars", laid_columbary_schema_Scalars)], narrowed := true }
def ExecStoresUptoSaid : Prop := execStoresUptoRow.holds Tryz.pinned (OpenSpec.upto execStoresSpec)

end Rows
end Go.Proofs.YtbibkdncfclnbaaGreatDoor
