import Derived.Test.YtpalalebligmoaaGreatDoorV0
set_option maxRecDepth 20000
set_option linter.unusedSimpArgs false
set_option linter.unusedVariables false
namespace Go.Cb.CodeA
open Go Go.Cb
open Nat (reduceAdd reduceSub reduceLeDiff reduceEqDiff)
attribute [local congr] obind_congr gv_congr2 gv2_congr brT_congr seqK_congr blkK_congr m1_congr gm_congr

/-- where a name stands first -/
def gI : List (List Nat) → List Nat → Option Nat
  | [], _ => none
  | x :: xs, n => if eqN n x then some 0 else (gI xs n).map (· + 1)
theorem gI_lt : ∀ (ks : List (List Nat)) (n : List Nat) (i : Nat), gI ks n = some i → i < ks.length
  | [], n, i, h => by cases h
  | x :: xs, n, i, h => by
    rw [gI] at h
    split at h
    · injection h with h; subst h; simp
    · cases hg : gI xs n with
      | none => rw [hg] at h; cases h
      | some j =>
        rw [hg] at h
        injection h with h
        subst h
        have := gI_lt xs n j hg
        simp; omega
/-- the search behind i places that hold other names -/
theorem gI_at {ks : List (List Nat)} {n : List Nat} {i : Nat} (h : i < ks.length) : gI (ks.drop i) n = if eqN n ks[i] then some 0 else (gI (ks.drop (i + 1)) n).map (· + 1) := by
  rw [List.drop_eq_getElem_cons h, gI]
theorem index_q (ks : List (List Nat)) (hl : ks.length < 2 ^ 63) (n : List Nat) (st : St) : EvQ tbl 30 [.list false (ks.map strRow), .str n] st (fun a st' => st' = st ∧ a = .int .i64 (match gI ks n with | some i => (i : Int) | none => -1)) := by
  refine EvQ.body (fn := a30) rfl rfl rfl ?_
  simp +contextual -implicitDefEqProofs only [K30, SS, reduceAdd,reduceSub,reduceLeDiff,reduceEqDiff,reduceCtorEq, List.length_map]
  refine WC.loopR (fun mm fr st' => st' = st ∧ ∃ (i : Nat) (v3 : AV), i ≤ ks.length ∧ mm = ks.length - i ∧ gI ks n = (gI (ks.drop i) n).map (· + i) ∧ fr = [.list false (ks.map strRow), .str n, .int .i64 0, v3, .int .i64 ks.length, .int .i64 i]) (m := ks.length) ⟨rfl, 0, _, Nat.zero_le _, rfl, by simp, rfl⟩ ?_
  rintro mm fr st' ⟨rfl, i, v3, hi, rfl, hX, rfl⟩
  simp +contextual -implicitDefEqProofs only [K30, SS, reduceAdd,reduceSub,reduceLeDiff,reduceEqDiff,reduceCtorEq]
  by_cases hil : i < ks.length
  rotate_left
  · rw [List.drop_of_length_le (by omega)] at hX
    rw [hX]
    simp +contextual -implicitDefEqProofs only [K30, SS, reduceAdd,reduceSub,reduceLeDiff,reduceEqDiff,reduceCtorEq, hil]
    refine WC.leave ?_
    simp +contextual -implicitDefEqProofs only [K30, SS, reduceAdd,reduceSub,reduceLeDiff,reduceEqDiff,reduceCtorEq]
    exact WC.ret ⟨_, _, rfl, rfl, rfl⟩
  have e2 := str_at hil
  rw [gI_at hil] at hX
  revert e2 hX
  generalize ks[i] = x
  intro hX e2
  simp +contextual -implicitDefEqProofs only [K30, SS, reduceAdd,reduceSub,reduceLeDiff,reduceEqDiff,reduceCtorEq, hil, e2]
  rcases bool_tf (eqN n x) with hx | hx
  · rw [if_pos hx] at hX
    rw [hX]
    simp +contextual -implicitDefEqProofs only [K30, SS, reduceAdd,reduceSub,reduceLeDiff,reduceEqDiff,reduceCtorEq, hx]
    refine WC.leaveR ?_
    simp +contextual -implicitDefEqProofs only [K30, SS, reduceAdd,reduceSub,reduceLeDiff,reduceEqDiff,reduceCtorEq]
    refine WC.ret ⟨_, _, rfl, rfl, ?_⟩
    simp
    rfl
  · rw [hx, if_neg (by decide)] at hX
    simp +contextual -implicitDefEqProofs only [K30, SS, reduceAdd,reduceSub,reduceLeDiff,reduceEqDiff,reduceCtorEq, hx, inc64 (show i + 1 < 2 ^ 63 by omega)]
    refine WC.next (m' := ks.length - (i + 1)) (by omega) ⟨rfl, i + 1, _, hil, rfl, ?_, rfl⟩
    rw [hX]
    cases gI (ks.drop (i + 1)) n with
    | none => rfl
    | some j => simp; omega
/-- the first value of a name in an object -/
def Val.at (n : List Nat) : Val → Option Val
  | .mk k _ _ ks ls => if eqI k 6 then (match gI ks n with | some i => ls[i]? | none => none) else none
def Val.none : Val := .mk 0 0 [] [] []
theorem Val.none_row : Val.none.row = [.int .u8 0, .int .i64 0, .str [], .list false [], .list false []] := by rw [Val.none, Val.row_eq]; rfl
def getA (o : Option Val) : AV := .tuple [.agg (o.getD Val.none).row, .bool o.isSome]
theorem get_q {v : Val} (h : v.Fin) (he : v.Even) (n : List Nat) (st : St) : EvQ tbl 16 [.agg v.row, .str n] st (fun a st' => st' = st ∧ a = getA (v.at n)) := by
  cases h with
  | mk k m s ks ls hk hl h =>
    have he : k = 6 → ks.length = ls.length := by cases he; assumption
    have hA : (Val.mk k m s ks ls).at n = if eqI k 6 then (match gI ks n with | some i => ls[i]? | none => none) else none := rfl
    have hlt := gI_lt ks n
    rw [hA, Val.row_eq]
    refine EvQ.body (fn := a16) rfl rfl rfl ?_
    simp +contextual -implicitDefEqProofs only [K16, SS, reduceAdd,reduceSub,reduceLeDiff,reduceEqDiff,reduceCtorEq]
    refine WC.call (index_q ks hk n _) rfl rfl ?_
    rintro _ _ ⟨rfl, rfl⟩
    revert hlt
    cases gI ks n with
    | none =>
      intro _
      simp +contextual -implicitDefEqProofs only [K16, SS, reduceAdd,reduceSub,reduceLeDiff,reduceEqDiff,reduceCtorEq, show ltI (-1) 0 = true from rfl]
      refine WC.ret ⟨_, _, rfl, rfl, ?_⟩
      rw [show (if eqI k 6 = true then none else none : Option Val) = none by split <;> rfl, getA, Option.getD_none, Val.none_row]
      rfl
    | some i =>
      intro hlt
      have hi := hlt i rfl
      have ei : ltI (i : Int) 0 = false := by rw [ltI_eq]; simp
      rcases bool_tf (eqI k 6) with h6 | h6
      · have hil : i < ls.length := by rw [← he (by rw [eqI_eq] at h6; simpa using h6)]; exact hi
        have e2 := val_at hil
        have e3 : ls[i]? = some ls[i] := List.getElem?_eq_getElem hil
        rw [if_pos h6]
        dsimp only
        rw [e3]
        revert e2
        generalize ls[i] = u
        intro e2
        obtain ⟨k1, n1, s1, ks1, ls1, e1⟩ := u.row_cells
        rw [getA, Option.getD_some, e1]
        rw [e1] at e2
        simp +contextual -implicitDefEqProofs only [K16, SS, reduceAdd,reduceSub,reduceLeDiff,reduceEqDiff,reduceCtorEq, ei, h6, e2]
        exact WC.ret ⟨_, _, rfl, rfl, rfl⟩
      · rw [h6, if_neg (by decide)]
        simp +contextual -implicitDefEqProofs only [K16, SS, reduceAdd,reduceSub,reduceLeDiff,reduceEqDiff,reduceCtorEq, ei, h6]
        refine WC.ret ⟨_, _, rfl, rfl, ?_⟩
        rw [getA, Option.getD_none, Val.none_row]
        rfl
theorem same_q {v : Val} (h : v.Fin) : ∀ st : St, EvQ tbl 14 [.agg v.row, .agg v.row] st (fun a st' => st' = st ∧ a = .bool true) := by
  induction h with
  | mk k n s ks ls hk hl h ih =>
    intro st
    rw [Val.row_eq]
    refine EvQ.body (fn := a14) rfl rfl rfl ?_
    simp +contextual -implicitDefEqProofs only [K14, SS, reduceAdd,reduceSub,reduceLeDiff,reduceEqDiff,reduceCtorEq, eqI_refl, eqN_refl, Bool.not_true, List.length_map]
    refine WC.loopR (fun mm fr st' => st' = st ∧ ∃ (i : Nat), i ≤ ks.length ∧ mm = ks.length - i ∧ fr = [.agg [.int .u8 k, .int .i64 n, .str s, .list false (ks.map strRow), .list false (ls.map Val.row)], .agg [.int .u8 k, .int .i64 n, .str s, .list false (ks.map strRow), .list false (ls.map Val.row)], .box [.int .u8 k, .int .i64 n, .str s, .list false (ks.map strRow), .list false (ls.map Val.row)], .box [.int .u8 k, .int .i64 n, .str s, .list false (ks.map strRow), .list false (ls.map Val.row)], .bool false, .int .i64 i, .undef]) (m := ks.length) ⟨rfl, 0, Nat.zero_le _, rfl, rfl⟩ ?_
    rintro mm fr st' ⟨rfl, i, hi, rfl, rfl⟩
    by_cases hil : i < ks.length
    · have e2 := str_at hil
      simp +contextual -implicitDefEqProofs only [K14, SS, reduceAdd,reduceSub,reduceLeDiff,reduceEqDiff,reduceCtorEq, List.length_map, hil, e2, eqN_refl, Bool.not_true, inc64 (show i + 1 < 2 ^ 63 by omega)]
      exact WC.next (m' := ks.length - (i + 1)) (by omega) ⟨rfl, i + 1, hil, rfl, rfl⟩
    simp +contextual -implicitDefEqProofs only [K14, SS, reduceAdd,reduceSub,reduceLeDiff,reduceEqDiff,reduceCtorEq, List.length_map, hil]
    refine WC.leave ?_
    simp +contextual -implicitDefEqProofs only [K14, SS, reduceAdd,reduceSub,reduceLeDiff,reduceEqDiff,reduceCtorEq]
    refine WC.loopR (fun mm fr st'' => st'' = st' ∧ ∃ (j : Nat), j ≤ ls.length ∧ mm = ls.length - j ∧ fr = [.agg [.int .u8 k, .int .i64 n, .str s, .list false (ks.map strRow), .list false (ls.map Val.row)], .agg [.int .u8 k, .int .i64 n, .str s, .list false (ks.map strRow), .list false (ls.map Val.row)], .box [.int .u8 k, .int .i64 n, .str s, .list false (ks.map strRow), .list false (ls.map Val.row)], .box [.int .u8 k, .int .i64 n, .str s, .list false (ks.map strRow), .list false (ls.map Val.row)], .bool false, .int .i64 i, .int .i64 j]) (m := ls.length) ⟨rfl, 0, Nat.zero_le _, rfl, rfl⟩ ?_
    rintro mm fr st'' ⟨rfl, j, hj, rfl, rfl⟩
    by_cases hjl : j < ls.length
    · have e2 := val_at hjl
      have ih1 := ih _ (List.getElem_mem hjl)
      revert e2 ih1
      generalize ls[j] = u
      intro e2 ih1
      obtain ⟨k1, n1, s1, ks1, ls1, e1⟩ := u.row_cells
      rw [e1] at e2
      simp only [e1] at ih1
      simp +contextual -implicitDefEqProofs only [K14, SS, reduceAdd,reduceSub,reduceLeDiff,reduceEqDiff,reduceCtorEq, List.length_map, hjl, e2]
      refine WC.call (ih1 _) rfl rfl ?_
      rintro _ _ ⟨rfl, rfl⟩
      simp +contextual -implicitDefEqProofs only [K14, SS, reduceAdd,reduceSub,reduceLeDiff,reduceEqDiff,reduceCtorEq, Bool.not_true, inc64 (show j + 1 < 2 ^ 63 by omega)]
      exact WC.next (m' := ls.length - (j + 1)) (by omega) ⟨rfl, j + 1, hjl, rfl, rfl⟩
    · simp +contextual -implicitDefEqProofs only [K14, SS, reduceAdd,reduceSub,reduceLeDiff,reduceEqDiff,reduceCtorEq, List.length_map, hjl]
      refine WC.leave ?_
      simp +contextual -implicitDefEqProofs only [K14, SS, reduceAdd,reduceSub,reduceLeDiff,reduceEqDiff,reduceCtorEq]
      exact WC.ret ⟨_, _, rfl, rfl, rfl⟩
end Go.Cb.CodeA
