/- What functions of the abstract machine answer. No conditions but those that each theorem names. -/
import Derived.Test.YtkfbiiedabbgfaaDoorQ1
set_option maxRecDepth 20000
set_option linter.unusedSimpArgs false
set_option linter.unusedVariables false
namespace Go.Cb.CodeA
open Go Go.Cb
attribute [local congr] obind_congr gv_congr2 gv2_congr brT_congr seqK_congr blkK_congr

theorem type_nil (n : List Nat) (st : St) : EvQ tbl 15 [.nilp, .str n] st (fun a st' => st' = st ∧ a = .tuple [.agg [.int .u8 0, .str [], .list false [], .list false []], .bool false]) := by
  refine EvQ.body (fn := a15) rfl rfl rfl ?_
  simp (contextual := true) (implicitDefEqProofs := false) only [K15, SS, eq_self, Nat.reduceAdd, Nat.reduceSub, Nat.reduceLeDiff, Nat.reduceEqDiff, Nat.reduceMul, reduceCtorEq, Int.reduceToNat, Int.reduceLE, Int.reduceLT]
  exact WC.ret ⟨_, _, rfl, rfl, rfl⟩
theorem scalar_nil (n : List Nat) (st : St) : EvQ tbl 21 [.nilp, .str n] st (fun a st' => st' = st ∧ a = .bool false) := by
  refine EvQ.body (fn := a21) rfl rfl rfl ?_
  simp (contextual := true) (implicitDefEqProofs := false) only [K21, SS, eq_self, Nat.reduceAdd, Nat.reduceSub, Nat.reduceLeDiff, Nat.reduceEqDiff, Nat.reduceMul, reduceCtorEq, Int.reduceToNat, Int.reduceLE, Int.reduceLT]
  exact WC.ret ⟨_, _, rfl, rfl, rfl⟩
theorem kind_nil (n : List Nat) (k : Int) (st : St) : EvQ tbl 35 [.nilp, .str n, .int .u8 k] st (fun a st' => st' = st ∧ a = .bool false) := by
  refine EvQ.body (fn := a35) rfl rfl rfl ?_
  simp (contextual := true) (implicitDefEqProofs := false) only [K35, SS, eq_self, Nat.reduceAdd, Nat.reduceSub, Nat.reduceLeDiff, Nat.reduceEqDiff, Nat.reduceMul, reduceCtorEq, Int.reduceToNat, Int.reduceLE, Int.reduceLT]
  refine WC.call (type_nil _ _) rfl rfl ?_
  rintro _ _ ⟨rfl, rfl⟩
  simp (contextual := true) (implicitDefEqProofs := false) only [K35, SS, eq_self, Nat.reduceAdd, Nat.reduceSub, Nat.reduceLeDiff, Nat.reduceEqDiff, Nat.reduceMul, reduceCtorEq, Int.reduceToNat, Int.reduceLE, Int.reduceLT]
  exact WC.ret ⟨_, _, rfl, rfl, rfl⟩
theorem enum_nil (n : List Nat) (st : St) : EvQ tbl 22 [.nilp, .str n] st (fun a st' => st' = st ∧ a = .bool false) := by
  refine EvQ.body (fn := a22) rfl rfl rfl ?_
  simp (contextual := true) (implicitDefEqProofs := false) only [K22, SS, eq_self, Nat.reduceAdd, Nat.reduceSub, Nat.reduceLeDiff, Nat.reduceEqDiff, Nat.reduceMul, reduceCtorEq, Int.reduceToNat, Int.reduceLE, Int.reduceLT]
  refine WC.call (kind_nil _ _ _) rfl rfl ?_
  rintro _ _ ⟨rfl, rfl⟩
  simp (contextual := true) (implicitDefEqProofs := false) only [K22, SS, eq_self, Nat.reduceAdd, Nat.reduceSub, Nat.reduceLeDiff, Nat.reduceEqDiff, Nat.reduceMul, reduceCtorEq, Int.reduceToNat, Int.reduceLE, Int.reduceLT]
  exact WC.ret ⟨_, _, rfl, rfl, rfl⟩
theorem input_nil (n : List Nat) (st : St) : EvQ tbl 23 [.nilp, .str n] st (fun a st' => st' = st ∧ a = .bool false) := by
  refine EvQ.body (fn := a23) rfl rfl rfl ?_
  simp (contextual := true) (implicitDefEqProofs := false) only [K23, SS, eq_self, Nat.reduceAdd, Nat.reduceSub, Nat.reduceLeDiff, Nat.reduceEqDiff, Nat.reduceMul, reduceCtorEq, Int.reduceToNat, Int.reduceLE, Int.reduceLT]
  refine WC.call (kind_nil _ _ _) rfl rfl ?_
  rintro _ _ ⟨rfl, rfl⟩
  simp (contextual := true) (implicitDefEqProofs := false) only [K23, SS, eq_self, Nat.reduceAdd, Nat.reduceSub, Nat.reduceLeDiff, Nat.reduceEqDiff, Nat.reduceMul, reduceCtorEq, Int.reduceToNat, Int.reduceLE, Int.reduceLT]
  exact WC.ret ⟨_, _, rfl, rfl, rfl⟩
theorem leaf_nil (n : List Nat) (st : St) : EvQ tbl 24 [.nilp, .str n] st (fun a st' => st' = st ∧ a = .bool false) := by
  refine EvQ.body (fn := a24) rfl rfl rfl ?_
  simp (contextual := true) (implicitDefEqProofs := false) only [K24, SS, eq_self, Nat.reduceAdd, Nat.reduceSub, Nat.reduceLeDiff, Nat.reduceEqDiff, Nat.reduceMul, reduceCtorEq, Int.reduceToNat, Int.reduceLE, Int.reduceLT]
  refine WC.call (scalar_nil _ _) rfl rfl ?_
  rintro _ _ ⟨rfl, rfl⟩
  simp (contextual := true) (implicitDefEqProofs := false) only [K24, SS, eq_self, Nat.reduceAdd, Nat.reduceSub, Nat.reduceLeDiff, Nat.reduceEqDiff, Nat.reduceMul, reduceCtorEq, Int.reduceToNat, Int.reduceLE, Int.reduceLT]
  refine WC.call (enum_nil _ _) rfl rfl ?_
  rintro _ _ ⟨rfl, rfl⟩
  simp (contextual := true) (implicitDefEqProofs := false) only [K24, SS, eq_self, Nat.reduceAdd, Nat.reduceSub, Nat.reduceLeDiff, Nat.reduceEqDiff, Nat.reduceMul, reduceCtorEq, Int.reduceToNat, Int.reduceLE, Int.reduceLT]
  exact WC.ret ⟨_, _, rfl, rfl, rfl⟩
theorem root_q (n : List Nat) (st : St) : EvQ tbl 34 [.str n] st (fun a st' => st' = st ∧ a = .bool (eqN n [81, 117, 101, 114, 121] || eqN n [77, 117, 116, 97, 116, 105, 111, 110])) := by
  refine EvQ.body (fn := a34) rfl rfl rfl ?_
  simp (contextual := true) (implicitDefEqProofs := false) only [K34, SS, eq_self, Nat.reduceAdd, Nat.reduceSub, Nat.reduceLeDiff, Nat.reduceEqDiff, Nat.reduceMul, reduceCtorEq, Int.reduceToNat, Int.reduceLE, Int.reduceLT]
  exact WC.ret ⟨_, _, rfl, rfl, rfl⟩
theorem composite_nil (n : List Nat) (st : St) : EvQ tbl 12 [.nilp, .str n] st (fun a st' => st' = st ∧ a = .bool false) := by
  refine EvQ.body (fn := a12) rfl rfl rfl ?_
  simp (contextual := true) (implicitDefEqProofs := false) only [K12, SS, eq_self, Nat.reduceAdd, Nat.reduceSub, Nat.reduceLeDiff, Nat.reduceEqDiff, Nat.reduceMul, reduceCtorEq, Int.reduceToNat, Int.reduceLE, Int.reduceLT]
  refine WC.call (root_q _ _) rfl rfl ?_
  rintro _ _ ⟨rfl, rfl⟩
  simp (contextual := true) (implicitDefEqProofs := false) only [K12, SS, eq_self, Nat.reduceAdd, Nat.reduceSub, Nat.reduceLeDiff, Nat.reduceEqDiff, Nat.reduceMul, reduceCtorEq, Int.reduceToNat, Int.reduceLE, Int.reduceLT]
  refine WC.g2 (fun h => ?_) (fun h => ?_)
  · simp (contextual := true) (implicitDefEqProofs := false) only [h, K12, SS, eq_self, Nat.reduceAdd, Nat.reduceSub, Nat.reduceLeDiff, Nat.reduceEqDiff, Nat.reduceMul, reduceCtorEq, Int.reduceToNat, Int.reduceLE, Int.reduceLT]
    refine WC.call (kind_nil _ _ _) rfl rfl ?_
    rintro _ _ ⟨rfl, rfl⟩
    simp (contextual := true) (implicitDefEqProofs := false) only [h, K12, SS, eq_self, Nat.reduceAdd, Nat.reduceSub, Nat.reduceLeDiff, Nat.reduceEqDiff, Nat.reduceMul, reduceCtorEq, Int.reduceToNat, Int.reduceLE, Int.reduceLT]
    refine WC.call (kind_nil _ _ _) rfl rfl ?_
    rintro _ _ ⟨rfl, rfl⟩
    simp (contextual := true) (implicitDefEqProofs := false) only [h, K12, SS, eq_self, Nat.reduceAdd, Nat.reduceSub, Nat.reduceLeDiff, Nat.reduceEqDiff, Nat.reduceMul, reduceCtorEq, Int.reduceToNat, Int.reduceLE, Int.reduceLT]
    refine WC.call (kind_nil _ _ _) rfl rfl ?_
    rintro _ _ ⟨rfl, rfl⟩
    simp (contextual := true) (implicitDefEqProofs := false) only [h, K12, SS, eq_self, Nat.reduceAdd, Nat.reduceSub, Nat.reduceLeDiff, Nat.reduceEqDiff, Nat.reduceMul, reduceCtorEq, Int.reduceToNat, Int.reduceLE, Int.reduceLT]
    exact WC.ret ⟨_, _, rfl, rfl, rfl⟩
  · simp (contextual := true) (implicitDefEqProofs := false) only [h, K12, SS, eq_self, Nat.reduceAdd, Nat.reduceSub, Nat.reduceLeDiff, Nat.reduceEqDiff, Nat.reduceMul, reduceCtorEq, Int.reduceToNat, Int.reduceLE, Int.reduceLT]
    exact WC.ret ⟨_, _, rfl, rfl, rfl⟩
theorem possible_nil (n : List Nat) (st : St) : EvQ tbl 11 [.nilp, .str n] st (fun a st' => st' = st ∧ a = .list false []) := by
  refine EvQ.body (fn := a11) rfl rfl rfl ?_
  simp (contextual := true) (implicitDefEqProofs := false) only [K11, SS, eq_self, Nat.reduceAdd, Nat.reduceSub, Nat.reduceLeDiff, Nat.reduceEqDiff, Nat.reduceMul, reduceCtorEq, Int.reduceToNat, Int.reduceLE, Int.reduceLT]
  refine WC.call (type_nil _ _) rfl rfl ?_
  rintro _ _ ⟨rfl, rfl⟩
  simp (contextual := true) (implicitDefEqProofs := false) only [K11, SS, eq_self, Nat.reduceAdd, Nat.reduceSub, Nat.reduceLeDiff, Nat.reduceEqDiff, Nat.reduceMul, reduceCtorEq, Int.reduceToNat, Int.reduceLE, Int.reduceLT]
  exact WC.ret ⟨_, _, rfl, rfl, rfl⟩
theorem types_nil (st : St) : EvQ tbl 16 [.nilp] st (fun a st' => st' = st ∧ a = .list false []) := by
  refine EvQ.body (fn := a16) rfl rfl rfl ?_
  simp (contextual := true) (implicitDefEqProofs := false) only [K16, SS, eq_self, Nat.reduceAdd, Nat.reduceSub, Nat.reduceLeDiff, Nat.reduceEqDiff, Nat.reduceMul, reduceCtorEq, Int.reduceToNat, Int.reduceLE, Int.reduceLT]
  exact WC.ret ⟨_, _, rfl, rfl, rfl⟩
theorem list_nil (st : St) : EvQ tbl 37 [.list false []] st (fun a st' => st' = st ∧ a = .list true []) := by
  refine EvQ.body (fn := a37) rfl rfl rfl ?_
  simp (contextual := true) (implicitDefEqProofs := false) only [K37, SS, eq_self, Nat.reduceAdd, Nat.reduceSub, Nat.reduceLeDiff, Nat.reduceEqDiff, Nat.reduceMul, reduceCtorEq, Int.reduceToNat, Int.reduceLE, Int.reduceLT]
  refine WC.loopR (fun mm fr st' => st' = st ∧ fr = [.list false [], .list true [], .list true [], .undef, .list false [], .int .i64 0, .int .i64 0]) (m := 0) ⟨rfl, rfl⟩ ?_
  rintro mm fr st' ⟨rfl, rfl⟩
  simp (contextual := true) (implicitDefEqProofs := false) only [K37, SS, eq_self, Nat.reduceAdd, Nat.reduceSub, Nat.reduceLeDiff, Nat.reduceEqDiff, Nat.reduceMul, reduceCtorEq, Int.reduceToNat, Int.reduceLE, Int.reduceLT]
  refine WC.leave ?_
  simp (contextual := true) (implicitDefEqProofs := false) only [K37, SS, eq_self, Nat.reduceAdd, Nat.reduceSub, Nat.reduceLeDiff, Nat.reduceEqDiff, Nat.reduceMul, reduceCtorEq, Int.reduceToNat, Int.reduceLE, Int.reduceLT]
  exact WC.ret ⟨_, _, rfl, rfl, rfl⟩
theorem index_nil (n : List Nat) (st : St) : EvQ tbl 36 [.list false [], .str n] st (fun a st' => st' = st ∧ a = .int .i64 (-1)) := by
  refine EvQ.body (fn := a36) rfl rfl rfl ?_
  simp (contextual := true) (implicitDefEqProofs := false) only [K36, SS, eq_self, Nat.reduceAdd, Nat.reduceSub, Nat.reduceLeDiff, Nat.reduceEqDiff, Nat.reduceMul, reduceCtorEq, Int.reduceToNat, Int.reduceLE, Int.reduceLT]
  refine WC.loopR (fun mm fr st' => st' = st ∧ fr = [.list false [], .str n, .int .i64 0, .undef, .int .i64 0, .int .i64 0]) (m := 0) ⟨rfl, rfl⟩ ?_
  rintro mm fr st' ⟨rfl, rfl⟩
  simp (contextual := true) (implicitDefEqProofs := false) only [K36, SS, eq_self, Nat.reduceAdd, Nat.reduceSub, Nat.reduceLeDiff, Nat.reduceEqDiff, Nat.reduceMul, reduceCtorEq, Int.reduceToNat, Int.reduceLE, Int.reduceLT, (show ltI 0 0 = false from rfl)]
  refine WC.leave ?_
  simp (contextual := true) (implicitDefEqProofs := false) only [K36, SS, eq_self, Nat.reduceAdd, Nat.reduceSub, Nat.reduceLeDiff, Nat.reduceEqDiff, Nat.reduceMul, reduceCtorEq, Int.reduceToNat, Int.reduceLE, Int.reduceLT]
  exact WC.ret ⟨_, _, rfl, rfl, rfl⟩
theorem field_nil (n : List Nat) (st : St) : EvQ tbl 17 [.nilp, .str n, .str n] st (fun a st' => st' = st ∧ a = .tuple [.agg [.str [], .list false [], .str [], .list false [], .bool false, .bool false, .int .u8 0, .int .i64 0, .str [], .list false [], .list false []], .bool false]) := by
  refine EvQ.body (fn := a17) rfl rfl rfl ?_
  simp (contextual := true) (implicitDefEqProofs := false) only [K17, SS, eq_self, Nat.reduceAdd, Nat.reduceSub, Nat.reduceLeDiff, Nat.reduceEqDiff, Nat.reduceMul, reduceCtorEq, Int.reduceToNat, Int.reduceLE, Int.reduceLT]
  refine WC.call (type_nil _ _) rfl rfl ?_
  rintro _ _ ⟨rfl, rfl⟩
  simp (contextual := true) (implicitDefEqProofs := false) only [K17, SS, eq_self, Nat.reduceAdd, Nat.reduceSub, Nat.reduceLeDiff, Nat.reduceEqDiff, Nat.reduceMul, reduceCtorEq, Int.reduceToNat, Int.reduceLE, Int.reduceLT]
  refine WC.call (list_nil _) rfl rfl ?_
  rintro _ _ ⟨rfl, rfl⟩
  simp (contextual := true) (implicitDefEqProofs := false) only [K17, SS, eq_self, Nat.reduceAdd, Nat.reduceSub, Nat.reduceLeDiff, Nat.reduceEqDiff, Nat.reduceMul, reduceCtorEq, Int.reduceToNat, Int.reduceLE, Int.reduceLT]
  refine WC.call (index_nil _ _) rfl rfl ?_
  rintro _ _ ⟨rfl, rfl⟩
  simp (contextual := true) (implicitDefEqProofs := false) only [K17, SS, eq_self, Nat.reduceAdd, Nat.reduceSub, Nat.reduceLeDiff, Nat.reduceEqDiff, Nat.reduceMul, reduceCtorEq, Int.reduceToNat, Int.reduceLE, Int.reduceLT, (show ltI (-1) 0 = true from rfl)]
  exact WC.ret ⟨_, _, rfl, rfl, rfl⟩
theorem nil_q (haw : EvQ tbl 8 [] [] (fun a _ => a = .bool true)) (n : List Nat) {r : List AV} (h : VRow r) : EvQ tbl 7 [.str n, .agg r] [] (fun a _ => a = .bool true) := by
  have hr := h
  obtain ⟨k, m, s, ks, ls, rfl, _, _⟩ := h.inv
  refine EvQ.body (fn := a7) rfl rfl rfl ?_
  simp (contextual := true) (implicitDefEqProofs := false) only [K7, SS, eq_self, Nat.reduceAdd, Nat.reduceSub, Nat.reduceLeDiff, Nat.reduceEqDiff, Nat.reduceMul, reduceCtorEq, Int.reduceToNat, Int.reduceLE, Int.reduceLT]
  refine WC.call (great_q hr _) rfl rfl ?_
  rintro _ _ ⟨rfl, b, rfl⟩
  simp (contextual := true) (implicitDefEqProofs := false) only [K7, SS, eq_self, Nat.reduceAdd, Nat.reduceSub, Nat.reduceLeDiff, Nat.reduceEqDiff, Nat.reduceMul, reduceCtorEq, Int.reduceToNat, Int.reduceLE, Int.reduceLT]
  refine WC.g2 (fun h => ?_) (fun h => ?_)
  · subst h
    simp (contextual := true) (implicitDefEqProofs := false) only [K7, SS, eq_self, Nat.reduceAdd, Nat.reduceSub, Nat.reduceLeDiff, Nat.reduceEqDiff, Nat.reduceMul, reduceCtorEq, Int.reduceToNat, Int.reduceLE, Int.reduceLT]
    refine WC.call (right_q hr _) rfl rfl ?_
    rintro _ _ ⟨rfl, b, rfl⟩
    simp (contextual := true) (implicitDefEqProofs := false) only [K7, SS, eq_self, Nat.reduceAdd, Nat.reduceSub, Nat.reduceLeDiff, Nat.reduceEqDiff, Nat.reduceMul, reduceCtorEq, Int.reduceToNat, Int.reduceLE, Int.reduceLT]
    refine WC.br (fun h => ?_) (fun h => ?_)
    · simp (contextual := true) (implicitDefEqProofs := false) only [K7, SS, eq_self, Nat.reduceAdd, Nat.reduceSub, Nat.reduceLeDiff, Nat.reduceEqDiff, Nat.reduceMul, reduceCtorEq, Int.reduceToNat, Int.reduceLE, Int.reduceLT]
      refine WC.call haw rfl rfl ?_
      rintro _ st' rfl
      simp (contextual := true) (implicitDefEqProofs := false) only [K7, SS, eq_self, Nat.reduceAdd, Nat.reduceSub, Nat.reduceLeDiff, Nat.reduceEqDiff, Nat.reduceMul, reduceCtorEq, Int.reduceToNat, Int.reduceLE, Int.reduceLT]
      exact WC.ret ⟨_, _, rfl, rfl⟩
    · simp (contextual := true) (implicitDefEqProofs := false) only [K7, SS, eq_self, Nat.reduceAdd, Nat.reduceSub, Nat.reduceLeDiff, Nat.reduceEqDiff, Nat.reduceMul, reduceCtorEq, Int.reduceToNat, Int.reduceLE, Int.reduceLT]
      refine WC.call (type_nil _ _) rfl rfl ?_
      rintro _ _ ⟨rfl, rfl⟩
      simp (contextual := true) (implicitDefEqProofs := false) only [K7, SS, eq_self, Nat.reduceAdd, Nat.reduceSub, Nat.reduceLeDiff, Nat.reduceEqDiff, Nat.reduceMul, reduceCtorEq, Int.reduceToNat, Int.reduceLE, Int.reduceLT]
      refine WC.call (field_nil _ _) rfl rfl ?_
      rintro _ _ ⟨rfl, rfl⟩
      simp (contextual := true) (implicitDefEqProofs := false) only [K7, SS, eq_self, Nat.reduceAdd, Nat.reduceSub, Nat.reduceLeDiff, Nat.reduceEqDiff, Nat.reduceMul, reduceCtorEq, Int.reduceToNat, Int.reduceLE, Int.reduceLT]
      refine WC.call haw rfl rfl ?_
      rintro _ st' rfl
      simp (contextual := true) (implicitDefEqProofs := false) only [K7, SS, eq_self, Nat.reduceAdd, Nat.reduceSub, Nat.reduceLeDiff, Nat.reduceEqDiff, Nat.reduceMul, reduceCtorEq, Int.reduceToNat, Int.reduceLE, Int.reduceLT]
      refine WC.call (scalar_nil _ _) rfl rfl ?_
      rintro _ _ ⟨rfl, rfl⟩
      simp (contextual := true) (implicitDefEqProofs := false) only [K7, SS, eq_self, Nat.reduceAdd, Nat.reduceSub, Nat.reduceLeDiff, Nat.reduceEqDiff, Nat.reduceMul, reduceCtorEq, Int.reduceToNat, Int.reduceLE, Int.reduceLT]
      refine WC.call (enum_nil _ _) rfl rfl ?_
      rintro _ _ ⟨rfl, rfl⟩
      simp (contextual := true) (implicitDefEqProofs := false) only [K7, SS, eq_self, Nat.reduceAdd, Nat.reduceSub, Nat.reduceLeDiff, Nat.reduceEqDiff, Nat.reduceMul, reduceCtorEq, Int.reduceToNat, Int.reduceLE, Int.reduceLT]
      refine WC.call (input_nil _ _) rfl rfl ?_
      rintro _ _ ⟨rfl, rfl⟩
      simp (contextual := true) (implicitDefEqProofs := false) only [K7, SS, eq_self, Nat.reduceAdd, Nat.reduceSub, Nat.reduceLeDiff, Nat.reduceEqDiff, Nat.reduceMul, reduceCtorEq, Int.reduceToNat, Int.reduceLE, Int.reduceLT]
      refine WC.call (leaf_nil _ _) rfl rfl ?_
      rintro _ _ ⟨rfl, rfl⟩
      simp (contextual := true) (implicitDefEqProofs := false) only [K7, SS, eq_self, Nat.reduceAdd, Nat.reduceSub, Nat.reduceLeDiff, Nat.reduceEqDiff, Nat.reduceMul, reduceCtorEq, Int.reduceToNat, Int.reduceLE, Int.reduceLT]
      refine WC.call (composite_nil _ _) rfl rfl ?_
      rintro _ _ ⟨rfl, rfl⟩
      simp (contextual := true) (implicitDefEqProofs := false) only [K7, SS, eq_self, Nat.reduceAdd, Nat.reduceSub, Nat.reduceLeDiff, Nat.reduceEqDiff, Nat.reduceMul, reduceCtorEq, Int.reduceToNat, Int.reduceLE, Int.reduceLT]
      refine WC.call (possible_nil _ _) rfl rfl ?_
      rintro _ _ ⟨rfl, rfl⟩
      simp (contextual := true) (implicitDefEqProofs := false) only [K7, SS, eq_self, Nat.reduceAdd, Nat.reduceSub, Nat.reduceLeDiff, Nat.reduceEqDiff, Nat.reduceMul, reduceCtorEq, Int.reduceToNat, Int.reduceLE, Int.reduceLT]
      rw [show eqI ((0 : Nat) : Int) 0 = true from rfl]
      simp (contextual := true) (implicitDefEqProofs := false) only [K7, SS, eq_self, Nat.reduceAdd, Nat.reduceSub, Nat.reduceLeDiff, Nat.reduceEqDiff, Nat.reduceMul, reduceCtorEq, Int.reduceToNat, Int.reduceLE, Int.reduceLT]
      refine WC.call (types_nil _) rfl rfl ?_
      rintro _ _ ⟨rfl, rfl⟩
      simp (contextual := true) (implicitDefEqProofs := false) only [K7, SS, eq_self, Nat.reduceAdd, Nat.reduceSub, Nat.reduceLeDiff, Nat.reduceEqDiff, Nat.reduceMul, reduceCtorEq, Int.reduceToNat, Int.reduceLE, Int.reduceLT]
      rw [show eqI ((0 : Nat) : Int) 0 = true from rfl]
      exact WC.ret ⟨_, _, rfl, rfl⟩
  · subst h
    simp (contextual := true) (implicitDefEqProofs := false) only [K7, SS, eq_self, Nat.reduceAdd, Nat.reduceSub, Nat.reduceLeDiff, Nat.reduceEqDiff, Nat.reduceMul, reduceCtorEq, Int.reduceToNat, Int.reduceLE, Int.reduceLT]
    refine WC.call haw rfl rfl ?_
    rintro _ st' rfl
    simp (contextual := true) (implicitDefEqProofs := false) only [K7, SS, eq_self, Nat.reduceAdd, Nat.reduceSub, Nat.reduceLeDiff, Nat.reduceEqDiff, Nat.reduceMul, reduceCtorEq, Int.reduceToNat, Int.reduceLE, Int.reduceLT]
    exact WC.ret ⟨_, _, rfl, rfl⟩
end Go.Cb.CodeA
