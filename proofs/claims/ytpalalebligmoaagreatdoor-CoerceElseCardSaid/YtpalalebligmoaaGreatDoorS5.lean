/- What functions of the abstract machine answer. No conditions but those that each theorem names. -/
import Derived.Test.YtpalalebligmoaaGreatDoorS4
set_option maxRecDepth 20000
set_option linter.unusedSimpArgs false
set_option linter.unusedVariables false
namespace Go.Cb.CodeA
open Go Go.Cb
open Nat (reduceAdd reduceSub reduceLeDiff reduceEqDiff)
attribute [local congr] obind_congr gv_congr2 gv2_congr brT_congr seqK_congr blkK_congr m1_congr gm_congr
theorem FD.row_len (f : FD) : f.row.length = 11 := rfl
def outObj (ks : List (List Nat)) (ls : List Val) : Cb.Obj := .cells [.int .u8 6, .int .i64 0, .str [], .list true (ks.map strRow), .list true (ls.map Val.row)]
theorem ldSR (d o : Nat) (call : CallT) (bx : AV) (st : St) : semLdStSR d call [.ptr o d, .ptr o 0] bx st = semLdStS call [.ptr o d] bx st := by
  simp only [semLdStSR]
  rw [if_pos ⟨by simp, by simp⟩]
theorem rowsS (ks : List (List Nat)) : rowsOk 1 (ks.map strRow) = true := rowsOk_all fun r hr => by
  obtain ⟨v, _, rfl⟩ := List.mem_map.1 hr
  rfl
theorem set_get {st : St} {o : Nat} (h : o < st.length) (x : Cb.Obj) : (st.set o x)[o]? = some x := List.getElem?_set_self h
theorem put_q {o : Nat} {st : St} {ks : List (List Nat)} {ls : List Val} (h : st[o]? = some (outObj ks ls)) (n : List Nat) (x : Val) (hk : ks.length ≤ 3000) (hl : ls.length ≤ 3000) :
    EvQ tbl 31 [.ptr o 0, .str n, .agg x.row] st (fun a st' => st' = st.set o (outObj (ks ++ [n]) (ls ++ [x]))) := by
  have hlt : o < st.length := (List.getElem?_eq_some_iff.1 h).1
  have e1 : (ks ++ [n]).map strRow = ks.map strRow ++ [[.str n]] := by rw [List.map_append]; rfl
  have e2 : (ls ++ [x]).map Val.row = ls.map Val.row ++ [[.int .u8 x.kind, .int .i64 x.num, .str x.text, .list false (x.names.map strRow), .list false (x.vals.map Val.row)]] := by rw [List.map_append, List.map_cons, List.map_nil, x.row_eta]
  unfold outObj at *
  rw [x.row_eta, e1, e2]
  have g1 : ((ks.map strRow).length + 1) * 16 ≤ 2 ^ 47 := by rw [List.length_map]; omega
  have g2 : ((ls.map Val.row).length + 1) * 80 ≤ 2 ^ 47 := by rw [List.length_map]; omega
  refine EvQ.body (fn := a31) rfl rfl rfl ?_
  simp +contextual -implicitDefEqProofs only [K31, SS, reduceAdd,reduceSub,reduceLeDiff,reduceEqDiff,reduceCtorEq, h, ldSR, set_get hlt, List.getElem?_cons_zero, List.getElem?_cons_succ, List.set_cons_zero, List.set_cons_succ, rowsS, rows_ok, g1, g2, List.set_set]
  refine WC.ret ⟨_, _, rfl, rfl⟩
end Go.Cb.CodeA
