/-
  NARROWER THAN 'FOR EVERY INPUT', by the rows' own cells (each row's printed sentence says how): CoerceTwice: loops, laid · CoerceGets: loops, laid · CoerceFits: loops, laid · CoerceOrder: loops, laid · CoerceDeep: laid · CoerceElse: laid.
  DERIVED. THE GIVEN ROWS OF THIS SEAT. 6 by the template 'for every input the law returns true; each argument reads behind the call as it read before'; 0 by the template 'total and deterministic' (their statements: YtpalalebligmoaaGreatDoorTotals.lean).
  GIVEN WITH THE SEED: the statements are not yours to turn. If you find one false, say at which input.
  Laid BY PROGRAM, IN A SANDBOX (cutbox-rows.mjs): the forced cells as the released guide's own fill.sh prints them over the translation b221dd67620e5642… (all of the seat's roots in one cut). By AI agents, Wed Nov 11 2026. No macro, syntax, notation, axiom, sorry.
-/
import Derived.Test.YtpalalebligmoaaGreatDoorChecked
import GoSem.Claim
import GoSem.ClaimJoined
import GoSem.ClaimMapViews
import Derived.JoinedTies
import Derived.KernelRfl
namespace Go.Proofs.YtpalalebligmoaaGreatDoor
/- THE CELL 'sum', in the pinned program and in every row, IS THE sha256 OF THE DUMP (.gsa) THAT YtpalalebligmoaaGreatDoorProg.lean LOADS. Nothing in Lean hashes anything: it is a label: what it is worth is what the hold of that sum in a sandbox is worth. -/
noncomputable def Tryz.pinned : Pinned := { name := "ytpalalebligmoaagreatdoor", sum := "b221dd67620e5642432a6dd2271af697c4db6f8861aee4e838523f6b4005dddc", checked := Tryz.checked }
namespace Rows
def none {H : Type} : Left H := { results := [], args := [] }

/- WHAT THE LISTED PACKAGE-LEVEL VARIABLES READ AS WHEN THE CALL BEGINS. Each datum BY PROGRAM (the guide's laid-datum.mjs) off the statement by which the dump's own 'gosem.cut.vars' lays the variable. In a bare row this is a premise. The card (YtpalalebligmoaaGreatDoorCards.lean) ties it to the program's text. -/
def laid_math_bits_deBruijn32tab {H : Type} : DataW H := .agg [.lit (.int .u8 0), .lit (.int .u8 1), .lit (.int .u8 28), .lit (.int .u8 2), .lit (.int .u8 29), .lit (.int .u8 14), .lit (.int .u8 24), .lit (.int .u8 3), .lit (.int .u8 30), .lit (.int .u8 22), .lit (.int .u8 20), .lit (.int .u8 15), .lit (.int .u8 25), .lit (.int .u8 17), .lit (.int .u8 4), .lit (.int .u8 8), .lit (.int .u8 31), .lit (.int .u8 27), .lit (.int .u8 13), .lit (.int .u8 23), .lit (.int .u8 21), .lit (.int .u8 19), .lit (.int .u8 16), .lit (.int .u8 7), .lit (.int .u8 26), .lit (.int .u8 12), .lit (.int .u8 18), .lit (.int .u8 6), .lit (.int .u8 11), .lit (.int .u8 5), .lit (.int .u8 10), .lit (.int .u8 9)]
def laid_math_bits_deBruijn64tab {H : Type} : DataW H := .agg [.lit (.int .u8 0), .lit (.int .u8 1), .lit (.int .u8 56), .lit (.int .u8 2), .lit (.int .u8 57), .lit (.int .u8 49), .lit (.int .u8 28), .lit (.int .u8 3), .lit (.int .u8 61), .lit (.int .u8 58), .lit (.int .u8 42), .lit (.int .u8 50), .lit (.int .u8 38), .lit (.int .u8 29), .lit (.int .u8 17), .lit (.int .u8 4), .lit (.int .u8 62), .lit (.int .u8 47), .lit (.int .u8 59), .lit (.int .u8 36), .lit (.int .u8 45), .lit (.int .u8 43), .lit (.int .u8 51), .lit (.int .u8 22), .lit (.int .u8 53), .lit (.int .u8 39), .lit (.int .u8 33), .lit (.int .u8 30), .lit (.int .u8 24), .lit (.int .u8 18), .lit (.int .u8 12), .lit (.int .u8 5), .lit (.int .u8 63), .lit (.int .u8 55), .lit (.int .u8 48), .lit (.int .u8 27), .lit (.int .u8 60), .lit (.int .u8 41), .lit (.int .u8 37), .lit (.int .u8 16), .lit (.int .u8 46), .lit (.int .u8 35), .lit (.int .u8 44), .lit (.int .u8 21), .lit (.int .u8 52), .lit (.int .u8 32), .lit (.int .u8 23), .lit (.int .u8 11), .lit (.int .u8 54), .lit (.int .u8 26), .lit (.int .u8 40), .lit (.int .u8 15), .lit (.int .u8 34), .lit (.int .u8 20), .lit (.int .u8 31), .lit (.int .u8 10), .lit (.int .u8 25), .lit (.int .u8 14), .lit (.int .u8 19), .lit (.int .u8 9), .lit (.int .u8 13), .lit (.int .u8 8), .lit (.int .u8 7), .lit (.int .u8 6)]
def laid_internal_strconv_uint64pow10 {H : Type} : DataW H := .agg [.lit (.int .u64 1), .lit (.int .u64 10), .lit (.int .u64 100), .lit (.int .u64 1000), .lit (.int .u64 10000), .lit (.int .u64 100000), .lit (.int .u64 1000000), .lit (.int .u64 10000000), .lit (.int .u64 100000000), .lit (.int .u64 1000000000), .lit (.int .u64 10000000000), .lit (.int .u64 100000000000), .lit (.int .u64 1000000000000), .lit (.int .u64 10000000000000), .lit (.int .u64 100000000000000), .lit (.int .u64 1000000000000000), .lit (.int .u64 10000000000000000), .lit (.int .u64 100000000000000000), .lit (.int .u64 1000000000000000000), .lit (.int .u64 10000000000000000000)]
def laid_columbary_schema_Scalars {H : Type} : DataW H := .agg [.lit (.string [66, 111, 111, 108, 101, 97, 110]), .lit (.string [73, 68]), .lit (.string [73, 110, 116]), .lit (.string [83, 116, 114, 105, 110, 103])]

/-- 'columbarylaw10.CoerceTwice': WHATEVER THE INPUT: true; the input reads as it did. -/
def coerceTwiceSpec : ChangeSpec := { name := "coerceTwice", fn := fun _ => fun
  | [d1, d2] => { results := [.lit (.bool true)], args := [d1, d2] }
  | _ => none }
def coerceTwiceRow : OpenClaim := { program := "ytpalalebligmoaagreatdoor", sum := "b221dd67620e5642432a6dd2271af697c4db6f8861aee4e838523f6b4005dddc", func := "columbary/columbarylaw10.CoerceTwice", spec := "coerceTwice", unfollowed := true, recurses := true, named := ["columbary/schema.Scalars", "internal/strconv.uint64pow10", "math/bits.deBruijn32tab", "math/bits.deBruijn64tab"], loops := true, apart := false, laid := [("math/bits.deBruijn32tab", laid_math_bits_deBruijn32tab), ("math/bits.deBruijn64tab", laid_math_bits_deBruijn64tab), ("internal/strconv.uint64pow10", laid_internal_strconv_uint64pow10), ("columbary/schema.Scalars", laid_columbary_schema_Scalars)] }
def CoerceTwiceSaid : Prop := coerceTwiceRow.holds Tryz.pinned (OpenSpec.ofChange coerceTwiceSpec)

/-- ITS FALSE NEIGHBOUR: 'it returns false'. Refute it at one input. -/
def coerceTwiceWrong : ChangeSpec := { name := "coerceTwice", fn := fun _ => fun
  | [d1, d2] => { results := [.lit (.bool false)], args := [d1, d2] }
  | _ => none }
def CoerceTwiceWrongFalsely : Prop := coerceTwiceRow.holds Tryz.pinned (OpenSpec.ofChange coerceTwiceWrong)

/-- 'columbarylaw10.CoerceGets': WHATEVER THE INPUT: true; the input reads as it did. -/
def coerceGetsSpec : ChangeSpec := { name := "coerceGets", fn := fun _ => fun
  | [d1, d2] => { results := [.lit (.bool true)], args := [d1, d2] }
  | _ => none }
def coerceGetsRow : OpenClaim := { program := "ytpalalebligmoaagreatdoor", sum := "b221dd67620e5642432a6dd2271af697c4db6f8861aee4e838523f6b4005dddc", func := "columbary/columbarylaw10.CoerceGets", spec := "coerceGets", unfollowed := true, recurses := true, named := ["columbary/schema.Scalars", "internal/strconv.uint64pow10", "math/bits.deBruijn32tab", "math/bits.deBruijn64tab"], loops := true, apart := false, laid := [("math/bits.deBruijn32tab", laid_math_bits_deBruijn32tab), ("math/bits.deBruijn64tab", laid_math_bits_deBruijn64tab), ("internal/strconv.uint64pow10", laid_internal_strconv_uint64pow10), ("columbary/schema.Scalars", laid_columbary_schema_Scalars)] }
def CoerceGetsSaid : Prop := coerceGetsRow.holds Tryz.pinned (OpenSpec.ofChange coerceGetsSpec)

/-- ITS FALSE NEIGHBOUR: 'it returns false'. Refute it at one input. -/
def coerceGetsWrong : ChangeSpec := { name := "coerceGets", fn := fun _ => fun
  | [d1, d2] => { results := [.lit (.bool false)], args := [d1, d2] }
  | _ => none }
def CoerceGetsWrongFalsely : Prop := coerceGetsRow.holds Tryz.pinned (OpenSpec.ofChange coerceGetsWrong)

/-- 'columbarylaw10.CoerceFits': WHATEVER THE INPUT: true; the input reads as it did. -/
def coerceFitsSpec : ChangeSpec := { name := "coerceFits", fn := fun _ => fun
  | [d1, d2] => { results := [.lit (.bool true)], args := [d1, d2] }
  | _ => none }
def coerceFitsRow : OpenClaim := { program := "ytpalalebligmoaagreatdoor", sum := "b221dd67620e5642432a6dd2271af697c4db6f8861aee4e838523f6b4005dddc", func := "columbary/columbarylaw10.CoerceFits", spec := "coerceFits", unfollowed := true, recurses := true, named := ["columbary/schema.Scalars", "internal/strconv.uint64pow10", "math/bits.deBruijn32tab", "math/bits.deBruijn64tab"], loops := true, apart := false, laid := [("math/bits.deBruijn32tab", laid_math_bits_deBruijn32tab), ("math/bits.deBruijn64tab", laid_math_bits_deBruijn64tab), ("internal/strconv.uint64pow10", laid_internal_strconv_uint64pow10), ("columbary/schema.Scalars", laid_columbary_schema_Scalars)] }
def CoerceFitsSaid : Prop := coerceFitsRow.holds Tryz.pinned (OpenSpec.ofChange coerceFitsSpec)

/-- ITS FALSE NEIGHBOUR: 'it returns false'. Refute it at one input. -/
def coerceFitsWrong : ChangeSpec := { name := "coerceFits", fn := fun _ => fun
  | [d1, d2] => { results := [.lit (.bool false)], args := [d1, d2] }
  | _ => none }
def CoerceFitsWrongFalsely : Prop := coerceFitsRow.holds Tryz.pinned (OpenSpec.ofChange coerceFitsWrong)

/-- 'columbarylaw10.CoerceOrder': WHATEVER THE INPUT: true; the input reads as it did. -/
def coerceOrderSpec : ChangeSpec := { name := "coerceOrder", fn := fun _ => fun
  | [d1, d2] => { results := [.lit (.bool true)], args := [d1, d2] }
  | _ => none }
def coerceOrderRow : OpenClaim := { program := "ytpalalebligmoaagreatdoor", sum := "b221dd67620e5642432a6dd2271af697c4db6f8861aee4e838523f6b4005dddc", func := "columbary/columbarylaw10.CoerceOrder", spec := "coerceOrder", unfollowed := true, recurses := true, named := ["columbary/schema.Scalars", "internal/strconv.uint64pow10", "math/bits.deBruijn32tab", "math/bits.deBruijn64tab"], loops := true, apart := false, laid := [("math/bits.deBruijn32tab", laid_math_bits_deBruijn32tab), ("math/bits.deBruijn64tab", laid_math_bits_deBruijn64tab), ("internal/strconv.uint64pow10", laid_internal_strconv_uint64pow10), ("columbary/schema.Scalars", laid_columbary_schema_Scalars)] }
def CoerceOrderSaid : Prop := coerceOrderRow.holds Tryz.pinned (OpenSpec.ofChange coerceOrderSpec)

/-- ITS FALSE NEIGHBOUR: 'it returns false'. Refute it at one input. -/
def coerceOrderWrong : ChangeSpec := { name := "coerceOrder", fn := fun _ => fun
  | [d1, d2] => { results := [.lit (.bool false)], args := [d1, d2] }
  | _ => none }
def CoerceOrderWrongFalsely : Prop := coerceOrderRow.holds Tryz.pinned (OpenSpec.ofChange coerceOrderWrong)

/-- 'columbarylaw10.CoerceDeep': WHATEVER THE INPUT: true; the input reads as it did. -/
def coerceDeepSpec : ChangeSpec := { name := "coerceDeep", fn := fun _ => fun
  | [d1, d2] => { results := [.lit (.bool true)], args := [d1, d2] }
  | _ => none }
def coerceDeepRow : OpenClaim := { program := "ytpalalebligmoaagreatdoor", sum := "b221dd67620e5642432a6dd2271af697c4db6f8861aee4e838523f6b4005dddc", func := "columbary/columbarylaw10.CoerceDeep", spec := "coerceDeep", unfollowed := true, recurses := true, named := ["columbary/schema.Scalars", "internal/strconv.uint64pow10", "math/bits.deBruijn32tab", "math/bits.deBruijn64tab"], apart := false, laid := [("math/bits.deBruijn32tab", laid_math_bits_deBruijn32tab), ("math/bits.deBruijn64tab", laid_math_bits_deBruijn64tab), ("internal/strconv.uint64pow10", laid_internal_strconv_uint64pow10), ("columbary/schema.Scalars", laid_columbary_schema_Scalars)] }
def CoerceDeepSaid : Prop := coerceDeepRow.holds Tryz.pinned (OpenSpec.ofChange coerceDeepSpec)

/-- ITS FALSE NEIGHBOUR: 'it returns false'. Refute it at one input. -/
def coerceDeepWrong : ChangeSpec := { name := "coerceDeep", fn := fun _ => fun
  | [d1, d2] => { results := [.lit (.bool false)], args := [d1, d2] }
  | _ => none }
def CoerceDeepWrongFalsely : Prop := coerceDeepRow.holds Tryz.pinned (OpenSpec.ofChange coerceDeepWrong)

/-- 'columbarylaw10.CoerceElse': WHATEVER THE INPUT: true; the input reads as it did. -/
def coerceElseSpec : ChangeSpec := { name := "coerceElse", fn := fun _ => fun
  | [d1, d2, d3, d4, d5] => { results := [.lit (.bool true)], args := [d1, d2, d3, d4, d5] }
  | _ => none }
def coerceElseRow : OpenClaim := { program := "ytpalalebligmoaagreatdoor", sum := "b221dd67620e5642432a6dd2271af697c4db6f8861aee4e838523f6b4005dddc", func := "columbary/columbarylaw10.CoerceElse", spec := "coerceElse", unfollowed := true, recurses := true, named := ["columbary/schema.Scalars", "internal/strconv.uint64pow10", "math/bits.deBruijn32tab", "math/bits.deBruijn64tab"], apart := false, laid := [("math/bits.deBruijn32tab", laid_math_bits_deBruijn32tab), ("math/bits.deBruijn64tab", laid_math_bits_deBruijn64tab), ("internal/strconv.uint64pow10", laid_internal_strconv_uint64pow10), ("columbary/schema.Scalars", laid_columbary_schema_Scalars)] }
def CoerceElseSaid : Prop := coerceElseRow.holds Tryz.pinned (OpenSpec.ofChange coerceElseSpec)

/-- ITS FALSE NEIGHBOUR: 'it returns false'. Refute it at one input. -/
def coerceElseWrong : ChangeSpec := { name := "coerceElse", fn := fun _ => fun
  | [d1, d2, d3, d4, d5] => { results := [.lit (.bool false)], args := [d1, d2, d3, d4, d5] }
  | _ => none }
def CoerceElseWrongFalsely : Prop := coerceElseRow.holds Tryz.pinned (OpenSpec.ofChange coerceElseWrong)

/- THE SECOND FORM. 'bulk': how many values and letters a reading holds, each counted each time it is reached (what is shared counts as often as it is met; a slice's spare places count too). A statement '..UptoSaid' is the law's where the arguments, and the package variables that the reading takes, are together of bulk at most 1048576: NARROWER than '..Said'. Prove '..Said' where nothing that the law and all that it calls make is longer than what came in: it says more and counts as full. Else prove '..UptoSaid'. A law counts once. -/
mutual
def uptoBulk {H : Type} : DataW H → Nat
  | .lit (.string bytes) => bytes.length + 1
  | .lit _ => 1
  | .nil => 1
  | .ptr d => uptoBulk d + 1
  | .slice elems spare => uptoBulkAll elems + uptoBulkAll spare + 1
  | .agg parts => uptoBulkAll parts + 1
  | .iface _ d => uptoBulk d + 1
  | .map entries => uptoBulkEntries entries + 1
  | .held _ => 1
def uptoBulkAll {H : Type} : List (DataW H) → Nat
  | [] => 0
  | d :: r => uptoBulk d + uptoBulkAll r
def uptoBulkEntries {H : Type} : List (Lit × DataW H) → Nat
  | [] => 0
  | x :: r => uptoBulkEntry x + uptoBulkEntries r
def uptoBulkEntry {H : Type} : Lit × DataW H → Nat
  | (.string bytes, d) => bytes.length + uptoBulk d + 1
  | (_, d) => uptoBulk d + 1
 end
def uptoSmall : (H : Type) → List (DataW H) → Bool := fun _ ds => decide (uptoBulkAll ds ≤ 1048576)
def OpenSpec.upto (s : _root_.Go.ChangeSpec) : _root_.Go.OpenSpec := { _root_.Go.OpenSpec.ofChange s with cond := some uptoSmall }

/-- 'columbarylaw10.CoerceTwice', WHERE WHAT IT READS IS OF BULK AT MOST 1048576: true; the input reads as it did. -/
def coerceTwiceUptoRow : OpenClaim := { program := "ytpalalebligmoaagreatdoor", sum := "b221dd67620e5642432a6dd2271af697c4db6f8861aee4e838523f6b4005dddc", func := "columbary/columbarylaw10.CoerceTwice", spec := "coerceTwice", unfollowed := true, recurses := true, named := ["columbary/schema.Scalars", "internal/strconv.uint64pow10", "math/bits.deBruijn32tab", "math/bits.deBruijn64tab"], loops := true, apart := false, laid := [("math/bits.deBruijn32tab", laid_math_bits_deBruijn32tab), ("math/bits.deBruijn64tab", laid_math_bits_deBruijn64tab), ("internal/strconv.uint64pow10", laid_internal_strconv_uint64pow10), ("columbary/schema.Scalars", laid_columbary_schema_Scalars)], narrowed := true }
def CoerceTwiceUptoSaid : Prop := coerceTwiceUptoRow.holds Tryz.pinned (OpenSpec.upto coerceTwiceSpec)

/-- 'columbarylaw10.CoerceGets', WHERE WHAT IT READS IS OF BULK AT MOST 1048576: true; the input reads as it did. -/
def coerceGetsUptoRow : OpenClaim := { program := "ytpalalebligmoaagreatdoor", sum := "b221dd67620e5642432a6dd2271af697c4db6f8861aee4e838523f6b4005dddc", func := "columbary/columbarylaw10.CoerceGets", spec := "coerceGets", unfollowed := true, recurses := true, named := ["columbary/schema.Scalars", "internal/strconv.uint64pow10", "math/bits.deBruijn32tab", "math/bits.deBruijn64tab"], loops := true, apart := false, laid := [("math/bits.deBruijn32tab", laid_math_bits_deBruijn32tab), ("math/bits.deBruijn64tab", laid_math_bits_deBruijn64tab), ("internal/strconv.uint64pow10", laid_internal_strconv_uint64pow10), ("columbary/schema.Scalars", laid_columbary_schema_Scalars)], narrowed := true }
def CoerceGetsUptoSaid : Prop := coerceGetsUptoRow.holds Tryz.pinned (OpenSpec.upto coerceGetsSpec)

/-- 'columbarylaw10.CoerceFits', WHERE WHAT IT READS IS OF BULK AT MOST 1048576: true; the input reads as it did. -/
def coerceFitsUptoRow : OpenClaim := { program := "ytpalalebligmoaagreatdoor", sum := "b221dd67620e5642432a6dd2271af697c4db6f8861aee4e838523f6b4005dddc", func := "columbary/columbarylaw10.CoerceFits", spec := "coerceFits", unfollowed := true, recurses := true, named := ["columbary/schema.Scalars", "internal/strconv.uint64pow10", "math/bits.deBruijn32tab", "math/bits.deBruijn64tab"], loops := true, apart := false, laid := [("math/bits.deBruijn32tab", laid_math_bits_deBruijn32tab), ("math/bits.deBruijn64tab", laid_math_bits_deBruijn64tab), ("internal/strconv.uint64pow10", laid_internal_strconv_uint64pow10), ("columbary/schema.Scalars", laid_columbary_schema_Scalars)], narrowed := true }
def CoerceFitsUptoSaid : Prop := coerceFitsUptoRow.holds Tryz.pinned (OpenSpec.upto coerceFitsSpec)

/-- 'columbarylaw10.CoerceOrder', WHERE WHAT IT READS IS OF BULK AT MOST 1048576: true; the input reads as it did. -/
def coerceOrderUptoRow : OpenClaim := { program := "ytpalalebligmoaagreatdoor", sum := "b221dd67620e5642432a6dd2271af697c4db6f8861aee4e838523f6b4005dddc", func := "columbary/columbarylaw10.CoerceOrder", spec := "coerceOrder", unfollowed := true, recurses := true, named := ["columbary/schema.Scalars", "internal/strconv.uint64pow10", "math/bits.deBruijn32tab", "math/bits.deBruijn64tab"], loops := true, apart := false, laid := [("math/bits.deBruijn32tab", laid_math_bits_deBruijn32tab), ("math/bits.deBruijn64tab", laid_math_bits_deBruijn64tab), ("internal/strconv.uint64pow10", laid_internal_strconv_uint64pow10), ("columbary/schema.Scalars", laid_columbary_schema_Scalars)], narrowed := true }
def CoerceOrderUptoSaid : Prop := coerceOrderUptoRow.holds Tryz.pinned (OpenSpec.upto coerceOrderSpec)

/-- 'columbarylaw10.CoerceDeep', WHERE WHAT IT READS IS OF BULK AT MOST 1048576: true; the input reads as it did. -/
def coerceDeepUptoRow : OpenClaim := { program := "ytpalalebligmoaagreatdoor", sum := "b221dd67620e5642432a6dd2271af697c4db6f8861aee4e838523f6b4005dddc", func := "columbary/columbarylaw10.CoerceDeep", spec := "coerceDeep", unfollowed := true, recurses := true, named := ["columbary/schema.Scalars", "internal/strconv.uint64pow10", "math/bits.deBruijn32tab", "math/bits.deBruijn64tab"], apart := false, laid := [("math/bits.deBruijn32tab", laid_math_bits_deBruijn32tab), ("math/bits.deBruijn64tab", laid_math_bits_deBruijn64tab), ("internal/strconv.uint64pow10", laid_internal_strconv_uint64pow10), ("columbary/schema.Scalars", laid_columbary_schema_Scalars)], narrowed := true }
def CoerceDeepUptoSaid : Prop := coerceDeepUptoRow.holds Tryz.pinned (OpenSpec.upto coerceDeepSpec)

/-- 'columbarylaw10.CoerceElse', WHERE WHAT IT READS IS OF BULK AT MOST 1048576: true; the input reads as it did. -/
def coerceElseUptoRow : OpenClaim := { program := "ytpalalebligmoaagreatdoor", sum := "b221dd67620e5642432a6dd2271af697c4db6f8861aee4e838523f6b4005dddc", func := "columbary/columbarylaw10.CoerceElse", spec := "coerceElse", unfollowed := true, recurses := true, named := ["columbary/schema.Scalars", "internal/strconv.uint64pow10", "math/bits.deBruijn32tab", "math/bits.deBruijn64tab"], apart := false, laid := [("math/bits.deBruijn32tab", laid_math_bits_deBruijn32tab), ("math/bits.deBruijn64tab", laid_math_bits_deBruijn64tab), ("internal/strconv.uint64pow10", laid_internal_strconv_uint64pow10), ("columbary/schema.Scalars", laid_columbary_schema_Scalars)], narrowed := true }
def CoerceElseUptoSaid : Prop := coerceElseUptoRow.holds Tryz.pinned (OpenSpec.upto coerceElseSpec)

end Rows
end Go.Proofs.YtpalalebligmoaaGreatDoor
