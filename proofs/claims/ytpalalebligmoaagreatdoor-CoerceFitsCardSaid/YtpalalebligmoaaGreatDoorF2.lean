/- What functions of the abstract machine answer. No conditions but those that each theorem names. -/
import Derived.Test.YtpalalebligmoaaGreatDoorF1
import Derived.Test.YtpalalebligmoaaGreatDoorP1
set_option maxRecDepth 20000
set_option linter.unusedSimpArgs false
set_option linter.unusedVariables false
namespace Go.Cb.CodeA
open Go Go.Cb
attribute [local congr] obind_congr gv_congr2 gv2_congr brT_congr seqK_congr blkK_congr m1_congr gm_congr
def B0 (n : List Nat) (v : Val) : Bool := fitNm (fun _ => false) n v
def BF (n : List Nat) (v : Val) : Bool := fitNm (fitF B0 FI) n v
theorem fit0_q : ∀ (T : Ty), T.leaf ≠ [73] → ∀ st, Sch st → ∀ x : Val, x.Ok → EvQ tbl 15 [.ptr 23 0, .agg T.row, .agg x.row, .bool false] st (fun a st' => Sch st' ∧ a = .bool (fitG B0 T x))
  | .one n b, hT, st, hst, x, hx => fit_one_q Sch (fun _ h => h) B0 B0 _ n b rfl (fun h => absurd h hT) (fun h => absurd h hT) st hst x hx
  | .lst n t b, hT, st, hst, x, hx => fit_list_q Sch B0 n t b (fun st hst x hx => fit0_q t hT st hst x hx) st hst x hx
theorem fit_q : ∀ (T : Ty) st, Sch st → ∀ x : Val, x.Ok → EvQ tbl 15 [.ptr 23 0, .agg T.row, .agg x.row, .bool false] st (fun a st' => Sch st' ∧ a = .bool (fitG BF T x))
  | .one n b, st, hst, x, hx => fit_one_q Sch (fun _ h => h) BF B0 _ n b rfl (fun _ => rfl) (fun _ f hf st hst x hx => fit0_q f.T (FI_leaf f hf) st hst x hx) st hst x hx
  | .lst n t b, st, hst, x, hx => fit_list_q Sch BF n t b (fun st hst x hx => fit_q t st hst x hx) st hst x hx
end Go.Cb.CodeA
