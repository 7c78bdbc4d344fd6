/- What functions of the abstract machine answer. No conditions but those that each theorem names. -/
import Derived.Test.YtpalalebligmoaaGreatDoorS4
set_option maxRecDepth 20000
set_option linter.unusedSimpArgs false
set_option linter.unusedVariables false
namespace Go.Cb.CodeA
open Go Go.Cb
open Nat (reduceAdd reduceSub reduceLeDiff reduceEqDiff)
attribute [local congr] obind_congr gv_congr2 gv2_congr brT_congr seqK_congr blkK_congr m1_congr gm_congr
def memF (F : List FD) (k : List Nat) : Bool := F.any fun f => eqN f.name k
theorem FD.row_len (f : FD) : f.row.length = 11 := rfl
theorem eqf_q (f : FD) (k : List Nat) {o : Nat} {st : St} (h : st[o]? = some (.cells [.str k])) : EvQ tbl 101 [.agg f.row, .ptr o 0] st (fun a st' => st' = st ∧ a = .bool (eqN f.name k)) := by
  rw [FD.row]
  refine EvQ.body (fn := a101) rfl rfl rfl ?_
  simp +contextual -implicitDefEqProofs only [K101, SS, reduceAdd,reduceSub,reduceLeDiff,reduceEqDiff,reduceCtorEq, h]
  exact WC.ret ⟨_, _, rfl, rfl, rfl⟩
theorem idxf_q (F : List FD) (hF : F.length ≤ 3000) (k : List Nat) {o : Nat} {st : St} (h : st[o]? = some (.cells [.str k])) : EvQ tbl 107 [.list false (F.map FD.row), .func 101 [] [.ptr o 0]] st (fun a st' => st' = st ∧ ∃ i, a = .int .i64 i ∧ ltI i 0 = !memF F k) := by
  refine EvQ.body (fn := a107) rfl rfl rfl ?_
  simp +contextual -implicitDefEqProofs only [K107, SS, reduceAdd,reduceSub,reduceLeDiff,reduceEqDiff,reduceCtorEq, List.length_map]
  refine WC.loopR (fun mm fr st' => st' = st ∧ ∃ (i : Nat) (v3 : AV), i ≤ F.length ∧ mm = F.length - i ∧ memF F k = memF (F.drop i) k ∧ fr = [.list false (F.map FD.row), .func 101 [] [.ptr o 0], .int .i64 0, v3, .int .i64 F.length, .int .i64 i]) (m := F.length) ⟨rfl, 0, _, Nat.zero_le _, rfl, by simp, rfl⟩ ?_
  rintro mm fr st' ⟨rfl, i, v3, hi, rfl, hX, rfl⟩
  simp +contextual -implicitDefEqProofs only [K107, SS, reduceAdd,reduceSub,reduceLeDiff,reduceEqDiff,reduceCtorEq, ltN]
  by_cases hil : i < F.length
  rotate_left
  · rw [List.drop_of_length_le (by omega)] at hX
    simp +contextual -implicitDefEqProofs only [K107, SS, reduceAdd,reduceSub,reduceLeDiff,reduceEqDiff,reduceCtorEq, hil]
    refine WC.leave ?_
    simp +contextual -implicitDefEqProofs only [K107, SS, reduceAdd,reduceSub,reduceLeDiff,reduceEqDiff,reduceCtorEq]
    exact WC.ret ⟨_, _, rfl, rfl, _, rfl, by rw [hX]; rfl⟩
  have e2 : (F.map FD.row)[i]? = some (F[i]).row := by rw [List.getElem?_map, List.getElem?_eq_getElem hil]; rfl
  have hq := eqf_q F[i] k h
  rw [List.drop_eq_getElem_cons hil] at hX
  simp only [memF, List.any_cons] at hX
  revert e2 hX hq
  generalize F[i] = f
  intro hX e2 hq
  rw [FD.row] at e2 hq
  simp +contextual -implicitDefEqProofs only [K107, SS, reduceAdd,reduceSub,reduceLeDiff,reduceEqDiff,reduceCtorEq, hil, e2]
  refine WC.callV hq rfl rfl ?_
  rintro _ _ ⟨rfl, rfl⟩
  rcases bool_tf (eqN f.name k) with hx | hx
  · simp +contextual -implicitDefEqProofs only [K107, SS, reduceAdd,reduceSub,reduceLeDiff,reduceEqDiff,reduceCtorEq, hx]
    refine WC.leaveR ?_
    simp +contextual -implicitDefEqProofs only [K107, SS, reduceAdd,reduceSub,reduceLeDiff,reduceEqDiff,reduceCtorEq]
    exact WC.ret ⟨_, _, rfl, rfl, _, rfl, by unfold memF; rw [hX, hx, ltI_eq]; simp⟩
  · simp +contextual -implicitDefEqProofs only [K107, SS, reduceAdd,reduceSub,reduceLeDiff,reduceEqDiff,reduceCtorEq, hx, inc64 (show i + 1 < 2 ^ 63 by omega)]
    exact WC.next (m' := F.length - (i + 1)) (by omega) ⟨rfl, i + 1, _, hil, rfl, by unfold memF; rw [hX, hx, Bool.false_or], rfl⟩
theorem contf_q (F : List FD) (hF : F.length ≤ 3000) (k : List Nat) {o : Nat} {st : St} (h : st[o]? = some (.cells [.str k])) : EvQ tbl 89 [.list false (F.map FD.row), .func 101 [] [.ptr o 0]] st (fun a st' => st' = st ∧ a = .bool (memF F k)) := by
  refine EvQ.body (fn := a89) rfl rfl rfl ?_
  simp +contextual -implicitDefEqProofs only [K89, SS, reduceAdd,reduceSub,reduceLeDiff,reduceEqDiff,reduceCtorEq]
  refine WC.call (idxf_q F hF k h) rfl rfl ?_
  rintro _ _ ⟨rfl, i, rfl, hi⟩
  simp +contextual -implicitDefEqProofs only [K89, SS, reduceAdd,reduceSub,reduceLeDiff,reduceEqDiff,reduceCtorEq, hi, Bool.not_not]
  exact WC.ret ⟨_, _, rfl, rfl, rfl⟩
def outObj (ks : List (List Nat)) (ls : List Val) : Cb.Obj := .cells [.int .u8 6, .int .i64 0, .str [], .list true (ks.map strRow), .list true (ls.map Val.row)]
theorem ldSR (d o : Nat) (call : CallT) (bx : AV) (st : St) : semLdStSR d call [.ptr o d, .ptr o 0] bx st = semLdStS call [.ptr o d] bx st := by
  simp only [semLdStSR]
  rw [if_pos ⟨by simp, by simp⟩]
theorem rowsS (ks : List (List Nat)) : rowsOk 1 (ks.map strRow) = true := rowsOk_all fun r hr => by
  obtain ⟨v, _, rfl⟩ := List.mem_map.1 hr
  rfl
theorem set_get {st : St} {o : Nat} (h : o < st.length) (x : Cb.Obj) : (st.set o x)[o]? = some x := List.getElem?_set_self h
theorem put_q {o : Nat} {st : St} {ks : List (List Nat)} {ls : List Val} (h : st[o]? = some (outObj ks ls)) (n : List Nat) (x : Val) (hk : ks.length ≤ 3000) (hl : ls.length ≤ 3000) :
    EvQ tbl 31 [.ptr o 0, .str n, .agg x.row] st (fun a st' => st' = st.set o (outObj (ks ++ [n]) (ls ++ [x]))) := by
  have hlt : o < st.length := (List.getElem?_eq_some_iff.1 h).1
  have e1 : (ks ++ [n]).map strRow = ks.map strRow ++ [[.str n]] := by rw [List.map_append]; rfl
  have e2 : (ls ++ [x]).map Val.row = ls.map Val.row ++ [[.int .u8 x.kind, .int .i64 x.num, .str x.text, .list false (x.names.map strRow), .list false (x.vals.map Val.row)]] := by rw [List.map_append, List.map_cons, List.map_nil, x.row_eta]
  unfold outObj at *
  rw [x.row_eta, e1, e2]
  have g1 : ((ks.map strRow).length + 1) * 16 ≤ 2 ^ 47 := by rw [List.length_map]; omega
  have g2 : ((ls.map Val.row).length + 1) * 80 ≤ 2 ^ 47 := by rw [List.length_map]; omega
  refine EvQ.body (fn := a31) rfl rfl rfl ?_
  simp +contextual -implicitDefEqProofs only [K31, SS, reduceAdd,reduceSub,reduceLeDiff,reduceEqDiff,reduceCtorEq, h, ldSR, set_get hlt, List.getElem?_cons_zero, List.getElem?_cons_succ, List.set_cons_zero, List.set_cons_succ, rowsS, rows_ok, g1, g2, List.set_set]
  refine WC.ret ⟨_, _, rfl, rfl⟩
end Go.Cb.CodeA
