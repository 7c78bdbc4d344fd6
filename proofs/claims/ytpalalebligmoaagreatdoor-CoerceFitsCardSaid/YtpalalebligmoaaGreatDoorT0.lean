import Derived.Test.YtpalalebligmoaaGreatDoorP3
set_option maxRecDepth 20000
set_option linter.unusedSimpArgs false
set_option linter.unusedVariables false
namespace Go.Cb.CodeA
open Go Go.Cb
open Nat (reduceAdd reduceSub reduceLeDiff reduceEqDiff)
attribute [local congr] obind_congr gv_congr2 gv2_congr brT_congr seqK_congr blkK_congr m1_congr gm_congr
/-- a type as it comes -/
inductive Tr where
  | mk (n : List Nat) (of : List Tr) (b : Bool)
mutual
def Tr.row : Tr → List AV
  | .mk n of b => [.str n, .list false (Tr.rows of), .bool b]
def Tr.rows : List Tr → List (List AV)
  | [] => []
  | t :: ts => t.row :: Tr.rows ts
end
theorem Tr.rows_map : ∀ ts : List Tr, Tr.rows ts = ts.map Tr.row
  | [] => by simp [Tr.rows]
  | t :: ts => by simp [Tr.rows, Tr.rows_map ts]
theorem Tr.row_eq (n : List Nat) (of : List Tr) (b : Bool) : (Tr.mk n of b).row = [.str n, .list false (of.map Tr.row), .bool b] := by rw [Tr.row, Tr.rows_map]
inductive Tr.Fin : Tr → Prop
  | mk (n : List Nat) (of : List Tr) (b : Bool) (hl : of.length < 2 ^ 63) (h : ∀ t ∈ of, Tr.Fin t) : Tr.Fin (.mk n of b)
theorem Tr.row_cells (t : Tr) : ∃ n xs b, t.row = [.str n, .list false xs, .bool b] := by
  cases t; exact ⟨_, _, _, Tr.row_eq _ _ _⟩
theorem shallow_q {t : Tr} (h : t.Fin) : ∀ (m : Int) (st : St), 0 ≤ m → m ≤ 3000 → EvQ tbl 10 [.agg t.row, .int .i64 m] st (fun a st' => st' = st ∧ ∃ b, a = .bool b ∧ (b = true → ∃ T : Ty, t.row = T.row)) := by
  induction h with
  | mk n of b hl h ih =>
    intro m st hm0 hm3
    rw [Tr.row_eq]
    refine EvQ.body (fn := a10) rfl rfl rfl ?_
    simp +contextual -implicitDefEqProofs only [K10, SS, reduceAdd,reduceSub,reduceLeDiff,reduceEqDiff,reduceCtorEq, List.length_map]
    match of, hl, h, ih with
    | [], _, _, _ =>
      rcases bool_tf (ltI 0 m) with c | c
      · simp +contextual -implicitDefEqProofs only [K10, SS, reduceAdd,reduceSub,reduceLeDiff,reduceEqDiff,reduceCtorEq, c, List.length_nil, show ltI (((0 : Nat) : Int)) 2 = true from rfl, show eqI (((0 : Nat) : Int)) 0 = true from rfl, Bool.true_and]
        exact WC.ret ⟨_, _, rfl, rfl, _, rfl, fun _ => ⟨.one n b, rfl⟩⟩
      · simp +contextual -implicitDefEqProofs only [K10, SS, reduceAdd,reduceSub,reduceLeDiff,reduceEqDiff,reduceCtorEq, c, List.length_nil, show ltI (((0 : Nat) : Int)) 2 = true from rfl, show eqI (((0 : Nat) : Int)) 0 = true from rfl, Bool.true_and, Bool.false_and]
        exact WC.ret ⟨_, _, rfl, rfl, _, rfl, fun h => by cases h⟩
    | [t], _, h, ih =>
      obtain ⟨n1, of1, b1, e1⟩ := t.row_cells
      have hq := ih t (by simp)
      rw [List.map_cons, List.map_nil]
      rw [e1] at hq ⊢
      rcases bool_tf (ltI 0 m) with c | c
      · have hm1 : 1 ≤ m := by rw [ltI_eq] at c; simp at c; omega
        simp +contextual -implicitDefEqProofs only [K10, SS, reduceAdd,reduceSub,reduceLeDiff,reduceEqDiff,reduceCtorEq, c, List.length_cons, List.length_nil, show ltI (((0 + 1 : Nat) : Int)) 2 = true from rfl, show eqI (((0 + 1 : Nat) : Int)) 0 = false from rfl, show ltI (((1 : Nat) : Int)) 2 = true from rfl, show eqI (((1 : Nat) : Int)) 0 = false from rfl, Bool.true_and, List.getElem?_cons_zero, wsub (show (0 : Int) ≤ 1 by decide) hm1 hm3]
        refine WC.call (hq (m - 1) _ (by omega) (by omega)) rfl rfl ?_
        rintro _ _ ⟨rfl, b2, rfl, hb2⟩
        simp +contextual -implicitDefEqProofs only [K10, SS, reduceAdd,reduceSub,reduceLeDiff,reduceEqDiff,reduceCtorEq, Bool.false_or]
        refine WC.ret ⟨_, _, rfl, rfl, _, rfl, fun h => ?_⟩
        obtain ⟨T, hT⟩ := hb2 h
        refine ⟨.lst n T b, ?_⟩
        rw [hT]
        rfl
      · simp +contextual -implicitDefEqProofs only [K10, SS, reduceAdd,reduceSub,reduceLeDiff,reduceEqDiff,reduceCtorEq, c, List.length_cons, List.length_nil, Bool.false_and]
        exact WC.ret ⟨_, _, rfl, rfl, _, rfl, fun h => by cases h⟩
    | t :: u :: ts, _, _, _ =>
      have e2 : ltI (((t :: u :: ts).length : Nat) : Int) 2 = false := by rw [ltI_eq]; simp; omega
      rcases bool_tf (ltI 0 m) with c | c
      · simp +contextual -implicitDefEqProofs only [K10, SS, reduceAdd,reduceSub,reduceLeDiff,reduceEqDiff,reduceCtorEq, c, e2, Bool.true_and, Bool.and_false, Bool.false_and]
        exact WC.ret ⟨_, _, rfl, rfl, _, rfl, fun h => by cases h⟩
      · simp +contextual -implicitDefEqProofs only [K10, SS, reduceAdd,reduceSub,reduceLeDiff,reduceEqDiff,reduceCtorEq, c, e2, Bool.false_and]
        exact WC.ret ⟨_, _, rfl, rfl, _, rfl, fun h => by cases h⟩
end Go.Cb.CodeA
