/- What functions of the abstract machine answer. No conditions but those that each theorem names. -/
import Derived.Test.YtpalalebligmoaaGreatDoorS1
set_option maxRecDepth 20000
set_option linter.unusedSimpArgs false
set_option linter.unusedVariables false
namespace Go.Cb.CodeA
open Go Go.Cb
open Nat (reduceAdd reduceSub reduceLeDiff reduceEqDiff)
attribute [local congr] obind_congr gv_congr2 gv2_congr brT_congr seqK_congr blkK_congr m1_congr gm_congr
theorem none_at (s : List Nat) : Val.none.at s = none := by
  unfold Val.none
  rw [Val.at]
  rfl
theorem value_q {p : Bool} {G : St → Prop} (N : List Nat → Val → CRes) (T : Ty) (hN : ∀ st, G st → ∀ x : Val, x.Ok → EvQ tbl 47 [.agg (Cc p), .str T.leaf, .agg x.row] st (fun a st' => G st' ∧ a = ansR (N T.leaf x))) :
    ∀ st, G st → ∀ v : Val, v.Ok → EvQ tbl 26 [.agg (Cc p), .agg T.row, .agg v.row] st (fun a st' => G st' ∧ a = ansR (valueF p N T v)) := by
  induction T with
  | one n b =>
    intro st hst v hv
    have hg := get_q (Val.Ok.none.fin) Val.Ok.none.even v.text st
    have hc := hN st hst v hv
    rw [none_at, Val.none_row] at hg
    rw [show (Ty.one n b).leaf = n from rfl] at hc
    rw [Cc, v.row_eta] at hc ⊢
    rw [show (Ty.one n b).row = [.str n, .list false [], .bool b] from rfl, valueF]
    refine EvQ.body (fn := a26) rfl rfl rfl ?_
    simp +contextual -implicitDefEqProofs only [K26, SS, reduceAdd,reduceSub,reduceLeDiff,reduceEqDiff,reduceCtorEq]
    rcases bool_tf (eqI v.kind 7 && !p) with h7 | h7
    · rw [preF, if_pos h7]
      simp +contextual -implicitDefEqProofs only [K26, SS, reduceAdd,reduceSub,reduceLeDiff,reduceEqDiff,reduceCtorEq, h7]
      refine WC.call hg rfl rfl ?_
      rintro _ _ ⟨rfl, rfl⟩
      rw [getA, Option.getD_none, Val.none_row]
      dsimp only [Option.isSome]
      simp +contextual -implicitDefEqProofs only [K26, SS, reduceAdd,reduceSub,reduceLeDiff,reduceEqDiff,reduceCtorEq, show ∀ b, (false && b) = false from fun _ => rfl]
      refine WC.ret ⟨_, _, rfl, hst, ?_⟩
      rw [ansR, cErr, Val.none_row]
      rfl
    rw [preF, if_neg (by rw [h7]; decide)]
    simp +contextual -implicitDefEqProofs only [K26, SS, reduceAdd,reduceSub,reduceLeDiff,reduceEqDiff,reduceCtorEq, h7]
    rcases bool_tf (eqI v.kind 0) with h0 | h0
    · rw [if_pos h0]
      simp +contextual -implicitDefEqProofs only [K26, SS, reduceAdd,reduceSub,reduceLeDiff,reduceEqDiff,reduceCtorEq, h0]
      cases b with
      | true =>
        rw [if_pos rfl]
        simp +contextual -implicitDefEqProofs only [K26, SS, reduceAdd,reduceSub,reduceLeDiff,reduceEqDiff,reduceCtorEq]
        refine WC.ret ⟨_, _, rfl, hst, ?_⟩
        rw [ansR, cErr, Val.none_row]
        rfl
      | false =>
        rw [if_neg (by decide)]
        simp +contextual -implicitDefEqProofs only [K26, SS, reduceAdd,reduceSub,reduceLeDiff,reduceEqDiff,reduceCtorEq]
        refine WC.ret ⟨_, _, rfl, hst, ?_⟩
        rw [ansR, v.row_eta]
        rfl
    rw [if_neg (by rw [h0]; decide)]
    simp +contextual -implicitDefEqProofs only [K26, SS, reduceAdd,reduceSub,reduceLeDiff,reduceEqDiff,reduceCtorEq, h0, List.length_nil, show ltI 0 (((0 : Nat) : Int)) = false from rfl]
    refine WC.call hc rfl rfl ?_
    rintro _ _ ⟨hG', rfl⟩
    rw [ansR, (N n v).1.row_eta]
    simp +contextual -implicitDefEqProofs only [K26, SS, reduceAdd,reduceSub,reduceLeDiff,reduceEqDiff,reduceCtorEq]
    exact WC.ret ⟨_, _, rfl, hG', rfl⟩
  | lst n t b ih =>
    intro st hst v hv
    have hg := get_q (Val.Ok.none.fin) Val.Ok.none.even v.text st
    have hc := list_q (valueF p N t) t (ih hN) st hst v hv
    rw [none_at, Val.none_row] at hg
    rw [Cc, v.row_eta, t.row_eta] at hc
    rw [Cc, v.row_eta]
    rw [show (Ty.lst n t b).row = [.str n, .list false [t.row], .bool b] from rfl, valueF, t.row_eta]
    refine EvQ.body (fn := a26) rfl rfl rfl ?_
    simp +contextual -implicitDefEqProofs only [K26, SS, reduceAdd,reduceSub,reduceLeDiff,reduceEqDiff,reduceCtorEq]
    rcases bool_tf (eqI v.kind 7 && !p) with h7 | h7
    · rw [preF, if_pos h7]
      simp +contextual -implicitDefEqProofs only [K26, SS, reduceAdd,reduceSub,reduceLeDiff,reduceEqDiff,reduceCtorEq, h7]
      refine WC.call hg rfl rfl ?_
      rintro _ _ ⟨rfl, rfl⟩
      rw [getA, Option.getD_none, Val.none_row]
      dsimp only [Option.isSome]
      simp +contextual -implicitDefEqProofs only [K26, SS, reduceAdd,reduceSub,reduceLeDiff,reduceEqDiff,reduceCtorEq, show ∀ b, (false && b) = false from fun _ => rfl]
      refine WC.ret ⟨_, _, rfl, hst, ?_⟩
      rw [ansR, cErr, Val.none_row]
      rfl
    rw [preF, if_neg (by rw [h7]; decide)]
    simp +contextual -implicitDefEqProofs only [K26, SS, reduceAdd,reduceSub,reduceLeDiff,reduceEqDiff,reduceCtorEq, h7]
    rcases bool_tf (eqI v.kind 0) with h0 | h0
    · rw [if_pos h0]
      simp +contextual -implicitDefEqProofs only [K26, SS, reduceAdd,reduceSub,reduceLeDiff,reduceEqDiff,reduceCtorEq, h0]
      cases b with
      | true =>
        rw [if_pos rfl]
        simp +contextual -implicitDefEqProofs only [K26, SS, reduceAdd,reduceSub,reduceLeDiff,reduceEqDiff,reduceCtorEq]
        refine WC.ret ⟨_, _, rfl, hst, ?_⟩
        rw [ansR, cErr, Val.none_row]
        rfl
      | false =>
        rw [if_neg (by decide)]
        simp +contextual -implicitDefEqProofs only [K26, SS, reduceAdd,reduceSub,reduceLeDiff,reduceEqDiff,reduceCtorEq]
        refine WC.ret ⟨_, _, rfl, hst, ?_⟩
        rw [ansR, v.row_eta]
        rfl
    rw [if_neg (by rw [h0]; decide)]
    simp +contextual -implicitDefEqProofs only [K26, SS, reduceAdd,reduceSub,reduceLeDiff,reduceEqDiff,reduceCtorEq, h0, List.length_cons, List.length_nil, show ltI 0 (((0 + 1 : Nat) : Int)) = true from rfl, show ltI 0 (((1 : Nat) : Int)) = true from rfl]
    refine WC.call hc rfl rfl ?_
    rintro _ _ ⟨hG', rfl⟩
    rw [ansR, (listF (valueF p N t) t.bang v).1.row_eta]
    simp +contextual -implicitDefEqProofs only [K26, SS, reduceAdd,reduceSub,reduceLeDiff,reduceEqDiff,reduceCtorEq]
    exact WC.ret ⟨_, _, rfl, hG', rfl⟩
end Go.Cb.CodeA
