/- What functions of the abstract machine answer. No conditions but those that each theorem names. -/
import Derived.Test.YtpalalebligmoaaGreatDoorS6
set_option maxRecDepth 20000
set_option linter.unusedSimpArgs false
set_option linter.unusedVariables false
namespace Go.Cb.CodeA
open Go Go.Cb
attribute [local congr] obind_congr gv_congr2 gv2_congr brT_congr seqK_congr blkK_congr m1_congr gm_congr
def N0 (p : Bool) (n : List Nat) (v : Val) : CRes := namedF p (fun _ => cErr 8) n v
theorem value0_q (T : Ty) (hT : T.leaf ≠ [73]) (p : Bool) (G : St → Prop) (hG : ∀ st, G st → Sch st) : ∀ st, G st → ∀ x : Val, x.Ok → EvQ tbl 26 [.agg (Cc p), .agg T.row, .agg x.row] st (fun a st' => G st' ∧ a = ansR (valueF p (N0 p) T x)) :=
  value_q (N0 p) T fun st hst x hx => named_q hG hst T.leaf x hx _ fun h => absurd h hT
end Go.Cb.CodeA
