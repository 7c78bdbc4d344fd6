/- What functions of the abstract machine answer. No conditions but those that each theorem names. -/
import Derived.Test.YtpalalebligmoaaGreatDoorE0
set_option maxRecDepth 20000
set_option linter.unusedSimpArgs false
set_option linter.unusedVariables false
namespace Go.Cb.CodeA
open Go Go.Cb
open Nat (reduceAdd reduceSub reduceLeDiff reduceEqDiff)
attribute [local congr] obind_congr gv_congr2 gv2_congr brT_congr seqK_congr blkK_congr m1_congr gm_congr
def xObj (k m : Int) : Cb.Obj := .cells [.int .u8 k, .int .i64 m, .str [], .list true [], .list true []]
theorem getS_q (k m : Int) (o : Nat) {st : St} (h : st[o]? = some (xObj k m)) : EvQ tbl 16 [.agg [.int .u8 6, .int .i64 0, .str [], .list false [[.str [120]]], .sl o 0 1 5], .str [120]] st (fun a st' => st' = st ∧ a = .tuple [.agg (Val.mk k m [] [] []).row, .bool true]) := by
  have hi := index_q [[120]] (by decide) [120] st
  unfold xObj at h
  rw [Val.row_eq]
  have hi : EvQ tbl 30 [.list false [[.str [120]]], .str [120]] st (fun a st' => st' = st ∧ a = .int .i64 0) := hi
  refine EvQ.body (fn := a16) rfl rfl rfl ?_
  simp +contextual -implicitDefEqProofs only [K16, SS, reduceAdd,reduceSub,reduceLeDiff,reduceEqDiff,reduceCtorEq]
  refine WC.call hi rfl rfl ?_
  rintro _ _ ⟨rfl, rfl⟩
  simp +contextual -implicitDefEqProofs only [K16, SS, reduceAdd,reduceSub,reduceLeDiff,reduceEqDiff,reduceCtorEq, show ltI 0 0 = false from rfl, show eqI 6 6 = true from rfl, h, show ((0 : Int) < ((1 : Nat) : Int)) = True by simp, Nat.zero_mul, List.drop_zero]
  refine WC.ret ⟨_, _, rfl, rfl, ?_⟩
  rfl
theorem get0_q (st : St) : EvQ tbl 16 [.agg [.int .u8 6, .int .i64 0, .str [], .list false [], .list false []], .str [120]] st (fun a st' => st' = st ∧ a = .tuple [.agg Val.none.row, .bool false]) := by
  have h := get_q (v := .mk 6 0 [] [] []) (.mk _ _ _ _ _ (by decide) (by decide) (by simp)) (.mk _ _ _ _ _ (by simp) (by simp)) [120] st
  rw [Val.row_eq] at h
  exact h
theorem val_n (bang : Bool) {n : Int} (h : wrapA .i64 (wrapA .i32 n) = n) : val0 true (tyI bang) (.mk 1 n [] [] []) = (.mk 1 n [] [] [], true, 0) := by
  show preF true bang (.mk 1 n [] [] []) (N0 true sInt (.mk 1 n [] [] [])) = _
  rw [N0, show namedF true (fun _ => cErr 8) sInt (.mk 1 n [] [] []) = if eqI 1 1 && eqI n (wrapA .i64 (wrapA .i32 n)) then (.mk 1 n [] [] [], true, 0) else cErr 8 from rfl, h, eqI_refl, eqI_refl]
  cases bang <;> rfl
theorem val_0 (bang : Bool) : val0 true (tyI bang) Val.none = if bang then cErr 9 else (Val.none, true, 0) := by cases bang <;> rfl
theorem val_5 (bang : Bool) : val0 false (tyI bang) v5 = (v5, true, 0) := by cases bang <;> rfl
theorem varA_ok (y : Val) : varA (y, true, 0) = .tuple [.agg [.int .u8 6, .int .i64 0, .str [], .list false [[.str [120]]], .list false [y.row]], .str [], .int .i64 0] := by
  rw [varA, if_pos (show eqI ((y, true, (0 : Int)) : CRes).2.2 0 = true from rfl), if_pos (show ((y, true, (0 : Int)) : CRes).2.1 = true from rfl), Val.row_eq]
  rfl
theorem varA_none (y : Val) : varA (y, false, 0) = .tuple [.agg [.int .u8 6, .int .i64 0, .str [], .list false [], .list false []], .str [], .int .i64 0] := by
  rw [varA, if_pos (show eqI ((y, false, (0 : Int)) : CRes).2.2 0 = true from rfl), if_neg (show ¬ ((y, false, (0 : Int)) : CRes).2.1 = true from Bool.false_ne_true), Val.row_eq]
  rfl
theorem varA_err (y : Val) (ok : Bool) : varA (y, ok, 9) = .tuple [.agg [.int .u8 0, .int .i64 0, .str [], .list false [], .list false []], .str [120], .int .i64 9] := by
  rw [varA, if_neg (show ¬ eqI ((y, ok, (9 : Int)) : CRes).2.2 0 = true by exact (show ¬ eqI 9 0 = true by decide)), Val.none_row]
theorem else_law (has given null bang : Bool) (n : Int) (h : -2147483648 ≤ n ∧ n < 2147483648) : EvQ tbl 8 [.bool has, .bool given, .bool null, .bool bang, .int .i32 n] [] (fun a st' => a = .bool true) := by
  have w1 : wrapA .i64 n = n := wrap64 (by omega) (by omega)
  have h2 : wrapA .i64 (wrapA .i32 n) = n := by rw [wrap32 h.1 h.2, w1]
  have vn := val_n bang h2
  have v0 := val_0 bang
  have v5' := val_5 bang
  refine EvQ.body (fn := a8) rfl rfl rfl ?_
  simp +contextual -implicitDefEqProofs only [K8, SS, reduceAdd,reduceSub,reduceLeDiff,reduceEqDiff,reduceCtorEq]
  refine WC.call awake_q rfl rfl ?_
  rintro _ _ ⟨rfl, rfl⟩
  simp +contextual -implicitDefEqProofs only [K8, SS, reduceAdd,reduceSub,reduceLeDiff,reduceEqDiff,reduceCtorEq, Bool.not_true]
  refine WC.call both_q rfl rfl ?_
  rintro _ _ ⟨rfl, rfl⟩
  simp +contextual -implicitDefEqProofs only [K8, SS, reduceAdd,reduceSub,reduceLeDiff,reduceEqDiff,reduceCtorEq]
  cases given with
  | false =>
    have hv := vars_q 23 (.cells [V4]) (st := T_bb) ⟨sch_bb, sch_bb.r⟩ [] (.list false []) rfl Val.none Val.Ok.none false has bang (fun st _ => get0_q st)
    unfold drow at hv
    simp +contextual -implicitDefEqProofs only [K8, SS, reduceAdd,reduceSub,reduceLeDiff,reduceEqDiff,reduceCtorEq]
    refine WC.call hv rfl rfl ?_
    rintro _ _ ⟨hG, rfl⟩
    cases has with
    | true =>
      rw [show varR Val.none false true bang = (v5, true, 0) by unfold varR; rw [if_neg (by decide), if_pos rfl, v5'],
        varA_ok, show v5.row = [.int .u8 1, .int .i64 5, .str [], .list false [], .list false []] by unfold v5; rw [Val.row_eq]; rfl]
      have hs := same_q (v := v5) (.mk _ _ _ _ _ (by decide) (by decide) (by simp))
      rw [show v5.row = [.int .u8 1, .int .i64 5, .str [], .list false [], .list false []] by unfold v5; rw [Val.row_eq]; rfl] at hs
      simp +contextual -implicitDefEqProofs only [K8, SS, reduceAdd,reduceSub,reduceLeDiff,reduceEqDiff,reduceCtorEq, Bool.not_true, show eqI 0 0 = true from rfl, List.length_cons, List.length_nil, show eqI (((0 + 1 : Nat)) : Int) 1 = true from rfl, show eqI (((1 : Nat)) : Int) 1 = true from rfl, List.getElem?_cons_zero]
      refine WC.call (hs _) rfl rfl ?_
      rintro _ _ ⟨rfl, rfl⟩
      simp +contextual -implicitDefEqProofs only [K8, SS, reduceAdd,reduceSub,reduceLeDiff,reduceEqDiff,reduceCtorEq]
      exact WC.ret ⟨_, _, rfl, rfl⟩
    | false =>
      cases bang with
      | true =>
        rw [show varR Val.none false false true = (Val.none, false, 9) from rfl, varA_err]
        simp +contextual -implicitDefEqProofs only [K8, SS, reduceAdd,reduceSub,reduceLeDiff,reduceEqDiff,reduceCtorEq, Bool.not_false, show eqI 9 9 = true from rfl, show eqN [120] [120] = true from rfl, List.length_nil, show eqI (((0 : Nat)) : Int) 0 = true from rfl]
        exact WC.ret ⟨_, _, rfl, rfl⟩
      | false =>
        rw [show varR Val.none false false false = (Val.none, false, 0) from rfl, varA_none]
        simp +contextual -implicitDefEqProofs only [K8, SS, reduceAdd,reduceSub,reduceLeDiff,reduceEqDiff,reduceCtorEq, Bool.not_false, show eqI 0 0 = true from rfl, List.length_nil, show eqI (((0 : Nat)) : Int) 0 = true from rfl]
        exact WC.ret ⟨_, _, rfl, rfl⟩
  | true =>
    have hs := same_q (v := .mk 1 n [] [] []) (.mk _ _ _ _ _ (by decide) (by decide) (by simp))
    have hs0 := same_q (v := Val.none) (Val.Ok.none.fin)
    rw [Val.row_eq] at hs
    rw [Val.none_row] at hs0
    have hX : ∀ k m, GX T_bb.length (xObj k m) (T_bb ++ [xObj k m]) := fun k m => ⟨sch_bb.app _, get_app _ _⟩
    cases null with
    | false =>
      have hv := vars_q T_bb.length (xObj 1 n) (hX 1 n) [[.str [120]]] (.sl T_bb.length 0 1 5) rfl (.mk 1 n [] [] []) (.of (by simp) (by simp) (by intro e; cases e) (by omega) (by simp)) true has bang (fun st h => getS_q 1 n _ h.2)
      rw [show varR (.mk 1 n [] [] []) true has bang = (.mk 1 n [] [] [], true, 0) by unfold varR; rw [if_pos rfl, vn], varA_ok, Val.row_eq] at hv
      unfold drow xObj at hv
      unfold GX at hv
      simp +contextual -implicitDefEqProofs only [K8, SS, reduceAdd,reduceSub,reduceLeDiff,reduceEqDiff,reduceCtorEq, w1, get_app, set_app]
      refine WC.call hv rfl rfl ?_
      rintro _ _ ⟨⟨hS, hO⟩, rfl⟩
      simp +contextual -implicitDefEqProofs only [K8, SS, reduceAdd,reduceSub,reduceLeDiff,reduceEqDiff,reduceCtorEq, Bool.not_true, show eqI 0 0 = true from rfl, List.length_cons, List.length_nil, show eqI (((0 + 1 : Nat)) : Int) 1 = true from rfl, show eqI (((1 : Nat)) : Int) 1 = true from rfl, List.getElem?_cons_zero, hO, show ((0 : Int) < ((1 : Nat) : Int)) = True by simp, Nat.zero_mul, List.drop_zero]
      refine WC.call (hs _) rfl rfl ?_
      rintro _ _ ⟨rfl, rfl⟩
      simp +contextual -implicitDefEqProofs only [K8, SS, reduceAdd,reduceSub,reduceLeDiff,reduceEqDiff,reduceCtorEq]
      exact WC.ret ⟨_, _, rfl, rfl⟩
    | true =>
      have hv := vars_q T_bb.length (xObj 0 0) (hX 0 0) [[.str [120]]] (.sl T_bb.length 0 1 5) rfl Val.none Val.Ok.none true has bang (fun st h => getS_q 0 0 _ h.2)
      unfold drow xObj GX at hv
      simp +contextual -implicitDefEqProofs only [K8, SS, reduceAdd,reduceSub,reduceLeDiff,reduceEqDiff,reduceCtorEq, w1, get_app, set_app, show ((0 : Int) < ((1 : Nat) : Int)) = True by simp, Nat.zero_mul, List.drop_zero]
      refine WC.call hv rfl rfl ?_
      rintro _ _ ⟨⟨hS, hO⟩, rfl⟩
      cases bang with
      | true =>
        rw [show varR Val.none true has true = (Val.none, true, 9) by unfold varR; rw [if_pos rfl, v0]; rfl, varA_err]
        simp +contextual -implicitDefEqProofs only [K8, SS, reduceAdd,reduceSub,reduceLeDiff,reduceEqDiff,reduceCtorEq, Bool.not_true, show eqI 9 9 = true from rfl, show eqN [120] [120] = true from rfl, List.length_nil, show eqI (((0 : Nat)) : Int) 0 = true from rfl]
        exact WC.ret ⟨_, _, rfl, rfl⟩
      | false =>
        rw [show varR Val.none true has false = (Val.none, true, 0) by unfold varR; rw [if_pos rfl, v0]; rfl, varA_ok, Val.none_row]
        simp +contextual -implicitDefEqProofs only [K8, SS, reduceAdd,reduceSub,reduceLeDiff,reduceEqDiff,reduceCtorEq, Bool.not_true, show eqI 0 0 = true from rfl, List.length_cons, List.length_nil, show eqI (((0 + 1 : Nat)) : Int) 1 = true from rfl, show eqI (((1 : Nat)) : Int) 1 = true from rfl, List.getElem?_cons_zero, hO, show ((0 : Int) < ((1 : Nat) : Int)) = True by simp, Nat.zero_mul, List.drop_zero]
        refine WC.call (hs0 _) rfl rfl ?_
        rintro _ _ ⟨rfl, rfl⟩
        simp +contextual -implicitDefEqProofs only [K8, SS, reduceAdd,reduceSub,reduceLeDiff,reduceEqDiff,reduceCtorEq]
        exact WC.ret ⟨_, _, rfl, rfl⟩
end Go.Cb.CodeA
