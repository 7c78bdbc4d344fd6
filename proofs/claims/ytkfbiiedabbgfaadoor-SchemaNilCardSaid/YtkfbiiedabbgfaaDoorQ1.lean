import Derived.Test.YtkfbiiedabbgfaaDoorChA
import Derived.Test.YtkfbiiedabbgfaaDoorXAm36
set_option maxRecDepth 20000
set_option linter.unusedSimpArgs false
set_option linter.unusedVariables false
namespace Go.Cb.CodeA
open Go Go.Cb
attribute [local congr] obind_congr gv_congr2 gv2_congr brT_congr seqK_congr blkK_congr

/-- a value's row: names and values of any number -/
inductive VRow : List AV → Prop
  | mk (k n : Int) (s : List Nat) (ks : List (List AV)) (ls : List (List AV)) (hl : ls.length < 2 ^ 63) (h : ∀ r ∈ ls, VRow r) : VRow [.int .u8 k, .int .i64 n, .str s, .list false ks, .list false ls]

theorem VRow.inv {r : List AV} (h : VRow r) : ∃ k n s ks ls, r = [.int .u8 k, .int .i64 n, .str s, .list false ks, .list false ls] ∧ ls.length < 2 ^ 63 ∧ ∀ r ∈ ls, VRow r := by
  cases h with
  | mk k n s ks ls hl h => exact ⟨k, n, s, ks, ls, rfl, hl, h⟩
theorem count_q {r : List AV} (h : VRow r) : ∀ (d m : Int) (st : St), EvQ tbl 39 [.agg r, .int .i64 d, .int .i64 m] st (fun a st' => st' = st ∧ ∃ n, a = .int .i64 n) := by
  induction h with
  | mk k n s ks ls hl h ih =>
    intro d m st
    refine EvQ.body (fn := a39) rfl rfl rfl ?_
    simp (contextual := true) (implicitDefEqProofs := false) only [K39, SS, eq_self, Nat.reduceAdd, Nat.reduceSub, Nat.reduceLeDiff, Nat.reduceEqDiff, Nat.reduceMul, reduceCtorEq, Int.reduceToNat, Int.reduceLE, Int.reduceLT]
    rcases Bool.eq_false_or_eq_true (ltI 60 d) with hd | hd
    · simp (contextual := true) (implicitDefEqProofs := false) only [hd, K39, SS, eq_self, Nat.reduceAdd, Nat.reduceSub, Nat.reduceLeDiff, Nat.reduceEqDiff, Nat.reduceMul, reduceCtorEq, Int.reduceToNat, Int.reduceLE, Int.reduceLT]
      exact WC.ret ⟨_, _, rfl, rfl, _, rfl⟩
    simp (contextual := true) (implicitDefEqProofs := false) only [hd, K39, SS, eq_self, Nat.reduceAdd, Nat.reduceSub, Nat.reduceLeDiff, Nat.reduceEqDiff, Nat.reduceMul, reduceCtorEq, Int.reduceToNat, Int.reduceLE, Int.reduceLT]
    rcases Bool.eq_false_or_eq_true (ltI m (ks.length : Int)) with hk | hk
    · simp (contextual := true) (implicitDefEqProofs := false) only [hk, K39, SS, eq_self, Nat.reduceAdd, Nat.reduceSub, Nat.reduceLeDiff, Nat.reduceEqDiff, Nat.reduceMul, reduceCtorEq, Int.reduceToNat, Int.reduceLE, Int.reduceLT]
      exact WC.ret ⟨_, _, rfl, rfl, _, rfl⟩
    simp (contextual := true) (implicitDefEqProofs := false) only [hk, K39, SS, eq_self, Nat.reduceAdd, Nat.reduceSub, Nat.reduceLeDiff, Nat.reduceEqDiff, Nat.reduceMul, reduceCtorEq, Int.reduceToNat, Int.reduceLE, Int.reduceLT]
    rcases Bool.eq_false_or_eq_true (ltI m (ls.length : Int)) with hk | hk
    · simp (contextual := true) (implicitDefEqProofs := false) only [hk, K39, SS, eq_self, Nat.reduceAdd, Nat.reduceSub, Nat.reduceLeDiff, Nat.reduceEqDiff, Nat.reduceMul, reduceCtorEq, Int.reduceToNat, Int.reduceLE, Int.reduceLT]
      exact WC.ret ⟨_, _, rfl, rfl, _, rfl⟩
    simp (contextual := true) (implicitDefEqProofs := false) only [hk, K39, SS, eq_self, Nat.reduceAdd, Nat.reduceSub, Nat.reduceLeDiff, Nat.reduceEqDiff, Nat.reduceMul, reduceCtorEq, Int.reduceToNat, Int.reduceLE, Int.reduceLT]
    refine WC.loopR (fun mm fr st' => st' = st ∧ ∃ (i : Nat) (n5 : Int), i ≤ ls.length ∧ mm = ls.length - i ∧ fr = [.agg [.int .u8 k, .int .i64 n, .str s, .list false ks, .list false ls], .int .i64 d, .int .i64 m, .box [.int .u8 k, .int .i64 n, .str s, .list false ks, .list false ls], .int .i64 0, .int .i64 n5, .int .i64 i]) (m := ls.length) ⟨rfl, 0, 1, Nat.zero_le _, rfl, rfl⟩ ?_
    rintro mm fr st' ⟨rfl, i, n5, hi, rfl, rfl⟩
    simp (contextual := true) (implicitDefEqProofs := false) only [K39, SS, eq_self, Nat.reduceAdd, Nat.reduceSub, Nat.reduceLeDiff, Nat.reduceEqDiff, Nat.reduceMul, reduceCtorEq, Int.reduceToNat, Int.reduceLE, Int.reduceLT, ltN]
    by_cases hil : i < ls.length
    · obtain ⟨k1, n1, s1, ks1, ls1, e1, hl1, hr1⟩ := (h _ (List.getElem_mem hil)).inv
      have ih1 := ih _ (List.getElem_mem hil)
      have e2 : ls[i]? = some [.int .u8 k1, .int .i64 n1, .str s1, .list false ks1, .list false ls1] := by rw [List.getElem?_eq_getElem hil, e1]
      simp (contextual := true) (implicitDefEqProofs := false) only [hil, K39, SS, eq_self, Nat.reduceAdd, Nat.reduceSub, Nat.reduceLeDiff, Nat.reduceEqDiff, Nat.reduceMul, reduceCtorEq, Int.reduceToNat, Int.reduceLE, Int.reduceLT]
      rcases bool_tf (!ltI m n5) with hm | hm
      · simp (contextual := true) (implicitDefEqProofs := false) only [hm, e2, Int.natCast_nonneg, Int.toNat_natCast, K39, SS, eq_self, Nat.reduceAdd, Nat.reduceSub, Nat.reduceLeDiff, Nat.reduceEqDiff, Nat.reduceMul, reduceCtorEq, Int.reduceToNat, Int.reduceLE, Int.reduceLT]
        refine WC.call (ih1 _ _ _) rfl (by rw [e1]; rfl) ?_
        rintro _ _ ⟨rfl, n6, rfl⟩
        simp (contextual := true) (implicitDefEqProofs := false) only [K39, SS, eq_self, Nat.reduceAdd, Nat.reduceSub, Nat.reduceLeDiff, Nat.reduceEqDiff, Nat.reduceMul, reduceCtorEq, Int.reduceToNat, Int.reduceLE, Int.reduceLT]
        rw [inc64 (by omega)]
        exact WC.next (m' := ls.length - (i + 1)) (by omega) ⟨rfl, i + 1, _, hil, rfl, rfl⟩
      · simp (contextual := true) (implicitDefEqProofs := false) only [hm, K39, SS, eq_self, Nat.reduceAdd, Nat.reduceSub, Nat.reduceLeDiff, Nat.reduceEqDiff, Nat.reduceMul, reduceCtorEq, Int.reduceToNat, Int.reduceLE, Int.reduceLT]
        refine WC.leave ?_
        simp (contextual := true) (implicitDefEqProofs := false) only [K39, SS, eq_self, Nat.reduceAdd, Nat.reduceSub, Nat.reduceLeDiff, Nat.reduceEqDiff, Nat.reduceMul, reduceCtorEq, Int.reduceToNat, Int.reduceLE, Int.reduceLT]
        exact WC.ret ⟨_, _, rfl, rfl, _, rfl⟩
    · simp (contextual := true) (implicitDefEqProofs := false) only [hil, K39, SS, eq_self, Nat.reduceAdd, Nat.reduceSub, Nat.reduceLeDiff, Nat.reduceEqDiff, Nat.reduceMul, reduceCtorEq, Int.reduceToNat, Int.reduceLE, Int.reduceLT]
      refine WC.leave ?_
      simp (contextual := true) (implicitDefEqProofs := false) only [K39, SS, eq_self, Nat.reduceAdd, Nat.reduceSub, Nat.reduceLeDiff, Nat.reduceEqDiff, Nat.reduceMul, reduceCtorEq, Int.reduceToNat, Int.reduceLE, Int.reduceLT]
      exact WC.ret ⟨_, _, rfl, rfl, _, rfl⟩


theorem right_q {r : List AV} (h : VRow r) : ∀ (st : St), EvQ tbl 20 [.agg r] st (fun a st' => st' = st ∧ ∃ b, a = .bool b) := by
  induction h with
  | mk k n s ks ls hl h ih =>
    intro st
    refine EvQ.body (fn := a20) rfl rfl rfl ?_
    simp (contextual := true) (implicitDefEqProofs := false) only [K20, SS, eq_self, Nat.reduceAdd, Nat.reduceSub, Nat.reduceLeDiff, Nat.reduceEqDiff, Nat.reduceMul, reduceCtorEq, Int.reduceToNat, Int.reduceLE, Int.reduceLT]
    refine WC.br (fun _ => ?_) (fun _ => ?_)
    · simp (contextual := true) (implicitDefEqProofs := false) only [K20, SS, eq_self, Nat.reduceAdd, Nat.reduceSub, Nat.reduceLeDiff, Nat.reduceEqDiff, Nat.reduceMul, reduceCtorEq, Int.reduceToNat, Int.reduceLE, Int.reduceLT]
      exact WC.ret ⟨_, _, rfl, rfl, _, rfl⟩
    simp (contextual := true) (implicitDefEqProofs := false) only [K20, SS, eq_self, Nat.reduceAdd, Nat.reduceSub, Nat.reduceLeDiff, Nat.reduceEqDiff, Nat.reduceMul, reduceCtorEq, Int.reduceToNat, Int.reduceLE, Int.reduceLT]
    refine WC.br (fun _ => ?_) (fun _ => ?_)
    · simp (contextual := true) (implicitDefEqProofs := false) only [K20, SS, eq_self, Nat.reduceAdd, Nat.reduceSub, Nat.reduceLeDiff, Nat.reduceEqDiff, Nat.reduceMul, reduceCtorEq, Int.reduceToNat, Int.reduceLE, Int.reduceLT]
      exact WC.ret ⟨_, _, rfl, rfl, _, rfl⟩
    simp (contextual := true) (implicitDefEqProofs := false) only [K20, SS, eq_self, Nat.reduceAdd, Nat.reduceSub, Nat.reduceLeDiff, Nat.reduceEqDiff, Nat.reduceMul, reduceCtorEq, Int.reduceToNat, Int.reduceLE, Int.reduceLT]
    generalize (eqI k 1 || eqI k 3 && (eqI n 0 || eqI n 1)) = b1
    generalize (eqI k 2 || eqI k 4 || eqI k 7 || eqI k 8) = b2
    refine WC.loopR (fun mm fr st' => st' = st ∧ ∃ (i : Nat), i ≤ ls.length ∧ mm = ls.length - i ∧ fr = [.agg [.int .u8 k, .int .i64 n, .str s, .list false ks, .list false ls], .box [.int .u8 k, .int .i64 n, .str s, .list false ks, .list false ls], .bool false, .bool b1, .bool b2, .int .i64 i]) (m := ls.length) ⟨rfl, 0, Nat.zero_le _, rfl, rfl⟩ ?_
    rintro mm fr st' ⟨rfl, i, hi, rfl, rfl⟩
    simp (contextual := true) (implicitDefEqProofs := false) only [K20, SS, eq_self, Nat.reduceAdd, Nat.reduceSub, Nat.reduceLeDiff, Nat.reduceEqDiff, Nat.reduceMul, reduceCtorEq, Int.reduceToNat, Int.reduceLE, Int.reduceLT, ltN]
    by_cases hil : i < ls.length
    · have ih1 := ih _ (List.getElem_mem hil)
      have hr1 := h _ (List.getElem_mem hil)
      have e2 : ls[i]? = some ls[i] := List.getElem?_eq_getElem hil
      revert ih1 hr1 e2
      generalize ls[i] = row
      intro ih1 hr1 e2
      obtain ⟨k1, n1, s1, ks1, ls1, rfl, _, _⟩ := hr1.inv
      simp (contextual := true) (implicitDefEqProofs := false) only [hil, K20, SS, eq_self, Nat.reduceAdd, Nat.reduceSub, Nat.reduceLeDiff, Nat.reduceEqDiff, Nat.reduceMul, reduceCtorEq, Int.reduceToNat, Int.reduceLE, Int.reduceLT, e2, Int.natCast_nonneg, Int.toNat_natCast]
      refine WC.call (ih1 _) rfl rfl ?_
      rintro _ _ ⟨rfl, b, rfl⟩
      cases b with
      | true =>
        simp (contextual := true) (implicitDefEqProofs := false) only [K20, SS, eq_self, Nat.reduceAdd, Nat.reduceSub, Nat.reduceLeDiff, Nat.reduceEqDiff, Nat.reduceMul, reduceCtorEq, Int.reduceToNat, Int.reduceLE, Int.reduceLT]
        rw [inc64 (by omega)]
        exact WC.next (m' := ls.length - (i + 1)) (by omega) ⟨rfl, i + 1, hil, rfl, rfl⟩
      | false =>
        simp (contextual := true) (implicitDefEqProofs := false) only [K20, SS, eq_self, Nat.reduceAdd, Nat.reduceSub, Nat.reduceLeDiff, Nat.reduceEqDiff, Nat.reduceMul, reduceCtorEq, Int.reduceToNat, Int.reduceLE, Int.reduceLT]
        refine WC.leaveR ?_
        simp (contextual := true) (implicitDefEqProofs := false) only [K20, SS, eq_self, Nat.reduceAdd, Nat.reduceSub, Nat.reduceLeDiff, Nat.reduceEqDiff, Nat.reduceMul, reduceCtorEq, Int.reduceToNat, Int.reduceLE, Int.reduceLT]
        exact WC.ret ⟨_, _, rfl, rfl, _, rfl⟩
    · simp (contextual := true) (implicitDefEqProofs := false) only [hil, K20, SS, eq_self, Nat.reduceAdd, Nat.reduceSub, Nat.reduceLeDiff, Nat.reduceEqDiff, Nat.reduceMul, reduceCtorEq, Int.reduceToNat, Int.reduceLE, Int.reduceLT]
      refine WC.leave ?_
      simp (contextual := true) (implicitDefEqProofs := false) only [K20, SS, eq_self, Nat.reduceAdd, Nat.reduceSub, Nat.reduceLeDiff, Nat.reduceEqDiff, Nat.reduceMul, reduceCtorEq, Int.reduceToNat, Int.reduceLE, Int.reduceLT]
      exact WC.ret ⟨_, _, rfl, rfl, _, rfl⟩

theorem great_q {r : List AV} (h : VRow r) (st : St) : EvQ tbl 19 [.agg r] st (fun a st' => st' = st ∧ ∃ b, a = .bool b) := by
  obtain ⟨k, n, s, ks, ls, rfl, _, _⟩ := h.inv
  refine EvQ.body (fn := a19) rfl rfl rfl ?_
  simp (contextual := true) (implicitDefEqProofs := false) only [K19, SS, eq_self, Nat.reduceAdd, Nat.reduceSub, Nat.reduceLeDiff, Nat.reduceEqDiff, Nat.reduceMul, reduceCtorEq, Int.reduceToNat, Int.reduceLE, Int.reduceLT]
  refine WC.call (count_q h _ _ _) rfl rfl ?_
  rintro _ _ ⟨rfl, b, rfl⟩
  simp (contextual := true) (implicitDefEqProofs := false) only [K19, SS, eq_self, Nat.reduceAdd, Nat.reduceSub, Nat.reduceLeDiff, Nat.reduceEqDiff, Nat.reduceMul, reduceCtorEq, Int.reduceToNat, Int.reduceLE, Int.reduceLT]
  exact WC.ret ⟨_, _, rfl, rfl, _, rfl⟩
end Go.Cb.CodeA
