import Derived.Test.YtpalalebligmoaaGreatDoorChA
import Derived.Test.YtpalalebligmoaaGreatDoorXAms2
set_option maxRecDepth 20000
set_option linter.unusedSimpArgs false
set_option linter.unusedVariables false
namespace Go.Cb.CodeA
open Go Go.Cb
open Nat (reduceAdd reduceSub reduceLeDiff reduceEqDiff)
attribute [local congr] obind_congr gv_congr2 gv2_congr brT_congr seqK_congr blkK_congr m1_congr gm_congr

theorem eqN_refl (n : List Nat) : eqN n n = true := by rw [eqN_eq]; simp
theorem eqI_refl (n : Int) : eqI n n = true := by rw [eqI_eq]; simp
theorem eqN_iff (a b : List Nat) : eqN a b = true ↔ a = b := by rw [eqN_eq]; simp
theorem eqN_false (a b : List Nat) : eqN a b = false ↔ a ≠ b := by rw [eqN_eq]; simp
/-- a value -/
inductive Val where
  | mk (k n : Int) (s : List Nat) (ks : List (List Nat)) (ls : List Val)
def strRow (x : List Nat) : List AV := [.str x]
mutual
def Val.row : Val → List AV
  | .mk k n s ks ls => [.int .u8 k, .int .i64 n, .str s, .list false (ks.map strRow), .list false (Val.rows ls)]
def Val.rows : List Val → List (List AV)
  | [] => []
  | v :: vs => v.row :: Val.rows vs
end
theorem Val.rows_map : ∀ vs : List Val, Val.rows vs = vs.map Val.row
  | [] => by simp [Val.rows]
  | v :: vs => by simp [Val.rows, Val.rows_map vs]
/-- a value with no more names or values than a slice may have -/
inductive Val.Fin : Val → Prop
  | mk (k n : Int) (s : List Nat) (ks : List (List Nat)) (ls : List Val) (hk : ks.length < 2 ^ 63) (hl : ls.length < 2 ^ 63) (h : ∀ v ∈ ls, Val.Fin v) : Val.Fin (.mk k n s ks ls)
theorem Val.row_eq (k n : Int) (s : List Nat) (ks : List (List Nat)) (ls : List Val) : (Val.mk k n s ks ls).row = [.int .u8 k, .int .i64 n, .str s, .list false (ks.map strRow), .list false (ls.map Val.row)] := by
  rw [Val.row, Val.rows_map]
theorem Val.row_cells (v : Val) : ∃ k n s xs ys, v.row = [.int .u8 k, .int .i64 n, .str s, .list false xs, .list false ys] := by
  cases v; exact ⟨_, _, _, _, _, Val.row_eq _ _ _ _ _⟩
theorem val_at {ls : List Val} {i : Nat} (h : i < ls.length) : (ls.map Val.row)[i]? = some (ls[i]).row := by
  rw [List.getElem?_map, List.getElem?_eq_getElem h]; rfl
theorem str_at {ks : List (List Nat)} {i : Nat} (h : i < ks.length) : (ks.map strRow)[i]? = some [.str ks[i]] := by
  rw [List.getElem?_map, List.getElem?_eq_getElem h]; rfl

theorem count_q {v : Val} (h : v.Fin) : ∀ (d m : Int) (st : St), EvQ tbl 32 [.agg v.row, .int .i64 d, .int .i64 m] st (fun a st' => st' = st ∧ ∃ n, a = .int .i64 n) := by
  induction h with
  | mk k n s ks ls hk hl h ih =>
    intro d m st
    rw [Val.row_eq]
    refine EvQ.body (fn := a32) rfl rfl rfl ?_
    simp +contextual -implicitDefEqProofs only [K32, SS, reduceAdd,reduceSub,reduceLeDiff,reduceEqDiff,reduceCtorEq]
    rcases bool_tf (ltI 60 d) with hd | hd
    · simp +contextual -implicitDefEqProofs only [hd, K32, SS, reduceAdd,reduceSub,reduceLeDiff,reduceEqDiff,reduceCtorEq]
      exact WC.ret ⟨_, _, rfl, rfl, _, rfl⟩
    simp +contextual -implicitDefEqProofs only [hd, K32, SS, reduceAdd,reduceSub,reduceLeDiff,reduceEqDiff,reduceCtorEq, List.length_map]
    rcases bool_tf (ltI m (ks.length : Int)) with hk | hk
    · simp +contextual -implicitDefEqProofs only [hk, K32, SS, reduceAdd,reduceSub,reduceLeDiff,reduceEqDiff,reduceCtorEq]
      exact WC.ret ⟨_, _, rfl, rfl, _, rfl⟩
    simp +contextual -implicitDefEqProofs only [hk, K32, SS, reduceAdd,reduceSub,reduceLeDiff,reduceEqDiff,reduceCtorEq, List.length_map]
    rcases bool_tf (ltI m (ls.length : Int)) with hk | hk
    · simp +contextual -implicitDefEqProofs only [hk, K32, SS, reduceAdd,reduceSub,reduceLeDiff,reduceEqDiff,reduceCtorEq]
      exact WC.ret ⟨_, _, rfl, rfl, _, rfl⟩
    simp +contextual -implicitDefEqProofs only [hk, K32, SS, reduceAdd,reduceSub,reduceLeDiff,reduceEqDiff,reduceCtorEq]
    refine WC.loopR (fun mm fr st' => st' = st ∧ ∃ (i : Nat) (n5 : Int), i ≤ ls.length ∧ mm = ls.length - i ∧ fr = [.agg [.int .u8 k, .int .i64 n, .str s, .list false (ks.map strRow), .list false (ls.map Val.row)], .int .i64 d, .int .i64 m, .box [.int .u8 k, .int .i64 n, .str s, .list false (ks.map strRow), .list false (ls.map Val.row)], .int .i64 0, .int .i64 n5, .int .i64 i]) (m := ls.length) ⟨rfl, 0, 1, Nat.zero_le _, rfl, rfl⟩ ?_
    rintro mm fr st' ⟨rfl, i, n5, hi, rfl, rfl⟩
    simp +contextual -implicitDefEqProofs only [K32, SS, reduceAdd,reduceSub,reduceLeDiff,reduceEqDiff,reduceCtorEq, ltN, List.length_map]
    by_cases hil : i < ls.length
    · have e2 := val_at hil
      have ih1 := ih _ (List.getElem_mem hil)
      revert e2 ih1
      generalize ls[i] = u
      intro e2 ih1
      obtain ⟨k1, n1, s1, ks1, ls1, e1⟩ := u.row_cells
      rw [e1] at e2
      simp only [e1] at ih1
      simp +contextual -implicitDefEqProofs only [hil, K32, SS, reduceAdd,reduceSub,reduceLeDiff,reduceEqDiff,reduceCtorEq]
      rcases bool_tf (!ltI m n5) with hm | hm
      · simp +contextual -implicitDefEqProofs only [hm, e2, K32, SS, reduceAdd,reduceSub,reduceLeDiff,reduceEqDiff,reduceCtorEq]
        refine WC.call (ih1 _ _ _) rfl rfl ?_
        rintro _ _ ⟨rfl, n6, rfl⟩
        simp +contextual -implicitDefEqProofs only [K32, SS, reduceAdd,reduceSub,reduceLeDiff,reduceEqDiff,reduceCtorEq, inc64 (show i + 1 < 2 ^ 63 by omega)]
        exact WC.next (m' := ls.length - (i + 1)) (by omega) ⟨rfl, i + 1, _, hil, rfl, rfl⟩
      · simp +contextual -implicitDefEqProofs only [hm, K32, SS, reduceAdd,reduceSub,reduceLeDiff,reduceEqDiff,reduceCtorEq]
        refine WC.leave ?_
        simp +contextual -implicitDefEqProofs only [K32, SS, reduceAdd,reduceSub,reduceLeDiff,reduceEqDiff,reduceCtorEq]
        exact WC.ret ⟨_, _, rfl, rfl, _, rfl⟩
    · simp +contextual -implicitDefEqProofs only [hil, K32, SS, reduceAdd,reduceSub,reduceLeDiff,reduceEqDiff,reduceCtorEq]
      refine WC.leave ?_
      simp +contextual -implicitDefEqProofs only [K32, SS, reduceAdd,reduceSub,reduceLeDiff,reduceEqDiff,reduceCtorEq]
      exact WC.ret ⟨_, _, rfl, rfl, _, rfl⟩
/-- as many names as values, if it's an object -/
def Val.even : Val → Prop
  | .mk k _ _ ks ls => k = 6 → ks.length = ls.length
theorem right_q {v : Val} (h : v.Fin) : ∀ (st : St), EvQ tbl 22 [.agg v.row] st (fun a st' => st' = st ∧ ∃ b, a = .bool b ∧ (b = true → v.even)) := by
  induction h with
  | mk k n s ks ls hk hl h ih =>
    intro st
    rw [Val.row_eq]
    refine EvQ.body (fn := a22) rfl rfl rfl ?_
    simp +contextual -implicitDefEqProofs only [K22, SS, reduceAdd,reduceSub,reduceLeDiff,reduceEqDiff,reduceCtorEq]
    refine WC.br (fun _ => ?_) (fun _ => ?_)
    · simp +contextual -implicitDefEqProofs only [K22, SS, reduceAdd,reduceSub,reduceLeDiff,reduceEqDiff,reduceCtorEq]
      exact WC.ret ⟨_, _, rfl, rfl, _, rfl, fun h => by cases h⟩
    simp +contextual -implicitDefEqProofs only [K22, SS, reduceAdd,reduceSub,reduceLeDiff,reduceEqDiff,reduceCtorEq, List.length_map]
    refine WC.br (fun _ => ?_) (fun hev => ?_)
    · simp +contextual -implicitDefEqProofs only [K22, SS, reduceAdd,reduceSub,reduceLeDiff,reduceEqDiff,reduceCtorEq]
      exact WC.ret ⟨_, _, rfl, rfl, _, rfl, fun h => by cases h⟩
    have hev' : k = 6 → ks.length = ls.length := by
      intro h6
      rw [h6, show eqI 6 6 = true from rfl] at hev
      by_cases he : ks.length = ls.length
      · exact he
      · exfalso
        simp [he] at hev
    simp +contextual -implicitDefEqProofs only [K22, SS, reduceAdd,reduceSub,reduceLeDiff,reduceEqDiff,reduceCtorEq]
    generalize (eqI k 1 || eqI k 3 && (eqI n 0 || eqI n 1)) = b1
    generalize (eqI k 2 || eqI k 4 || eqI k 7 || eqI k 8) = b2
    refine WC.loopR (fun mm fr st' => st' = st ∧ ∃ (i : Nat), i ≤ ls.length ∧ mm = ls.length - i ∧ fr = [.agg [.int .u8 k, .int .i64 n, .str s, .list false (ks.map strRow), .list false (ls.map Val.row)], .box [.int .u8 k, .int .i64 n, .str s, .list false (ks.map strRow), .list false (ls.map Val.row)], .bool false, .bool b1, .bool b2, .int .i64 i]) (m := ls.length) ⟨rfl, 0, Nat.zero_le _, rfl, rfl⟩ ?_
    rintro mm fr st' ⟨rfl, i, hi, rfl, rfl⟩
    simp +contextual -implicitDefEqProofs only [K22, SS, reduceAdd,reduceSub,reduceLeDiff,reduceEqDiff,reduceCtorEq, ltN, List.length_map]
    by_cases hil : i < ls.length
    · have e2 := val_at hil
      have ih1 := ih _ (List.getElem_mem hil)
      revert e2 ih1
      generalize ls[i] = u
      intro e2 ih1
      obtain ⟨k1, n1, s1, ks1, ls1, e1⟩ := u.row_cells
      rw [e1] at e2
      simp only [e1] at ih1
      simp +contextual -implicitDefEqProofs only [hil, K22, SS, reduceAdd,reduceSub,reduceLeDiff,reduceEqDiff,reduceCtorEq, e2]
      refine WC.call (ih1 _) rfl rfl ?_
      rintro _ _ ⟨rfl, b, rfl, _⟩
      cases b with
      | true =>
        simp +contextual -implicitDefEqProofs only [K22, SS, reduceAdd,reduceSub,reduceLeDiff,reduceEqDiff,reduceCtorEq, inc64 (show i + 1 < 2 ^ 63 by omega)]
        exact WC.next (m' := ls.length - (i + 1)) (by omega) ⟨rfl, i + 1, hil, rfl, rfl⟩
      | false =>
        simp +contextual -implicitDefEqProofs only [K22, SS, reduceAdd,reduceSub,reduceLeDiff,reduceEqDiff,reduceCtorEq]
        refine WC.leaveR ?_
        simp +contextual -implicitDefEqProofs only [K22, SS, reduceAdd,reduceSub,reduceLeDiff,reduceEqDiff,reduceCtorEq]
        exact WC.ret ⟨_, _, rfl, rfl, _, rfl, fun h => by cases h⟩
    · simp +contextual -implicitDefEqProofs only [hil, K22, SS, reduceAdd,reduceSub,reduceLeDiff,reduceEqDiff,reduceCtorEq]
      refine WC.leave ?_
      simp +contextual -implicitDefEqProofs only [K22, SS, reduceAdd,reduceSub,reduceLeDiff,reduceEqDiff,reduceCtorEq]
      exact WC.ret ⟨_, _, rfl, rfl, _, rfl, fun _ => hev'⟩
theorem great_q {v : Val} (h : v.Fin) (st : St) : EvQ tbl 21 [.agg v.row] st (fun a st' => st' = st ∧ ∃ b, a = .bool b) := by
  have hc := fun d m => count_q h d m st
  obtain ⟨k, n, s, xs, ys, e⟩ := v.row_cells
  simp only [e] at hc ⊢
  refine EvQ.body (fn := a21) rfl rfl rfl ?_
  simp +contextual -implicitDefEqProofs only [K21, SS, reduceAdd,reduceSub,reduceLeDiff,reduceEqDiff,reduceCtorEq]
  refine WC.call (hc _ _) rfl rfl ?_
  rintro _ _ ⟨rfl, b, rfl⟩
  simp +contextual -implicitDefEqProofs only [K21, SS, reduceAdd,reduceSub,reduceLeDiff,reduceEqDiff,reduceCtorEq]
  exact WC.ret ⟨_, _, rfl, rfl, _, rfl⟩
theorem fine_q {v : Val} (h : v.Fin) (st : St) : EvQ tbl 11 [.agg v.row] st (fun a st' => st' = st ∧ ∃ b, a = .bool b ∧ (b = true → v.even)) := by
  have hg := great_q h st
  have hr := right_q h st
  obtain ⟨k, n, s, xs, ys, e⟩ := v.row_cells
  simp only [e] at hg hr ⊢
  refine EvQ.body (fn := a11) rfl rfl rfl ?_
  simp +contextual -implicitDefEqProofs only [K11, SS, reduceAdd,reduceSub,reduceLeDiff,reduceEqDiff,reduceCtorEq]
  refine WC.call hg rfl rfl ?_
  rintro _ _ ⟨rfl, b, rfl⟩
  simp +contextual -implicitDefEqProofs only [K11, SS, reduceAdd,reduceSub,reduceLeDiff,reduceEqDiff,reduceCtorEq]
  refine WC.g2 (fun hb => ?_) (fun hb => ?_)
  · simp +contextual -implicitDefEqProofs only [K11, SS, reduceAdd,reduceSub,reduceLeDiff,reduceEqDiff,reduceCtorEq, hb]
    refine WC.call hr rfl rfl ?_
    rintro _ _ ⟨rfl, b', rfl, hev⟩
    simp +contextual -implicitDefEqProofs only [K11, SS, reduceAdd,reduceSub,reduceLeDiff,reduceEqDiff,reduceCtorEq, hb]
    exact WC.ret ⟨_, _, rfl, rfl, _, rfl, hev⟩
  · simp +contextual -implicitDefEqProofs only [K11, SS, reduceAdd,reduceSub,reduceLeDiff,reduceEqDiff,reduceCtorEq, hb]
    exact WC.ret ⟨_, _, rfl, rfl, _, rfl, fun h => by cases h⟩
end Go.Cb.CodeA
