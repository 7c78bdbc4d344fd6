/- What functions of the abstract machine answer. No conditions but those that each theorem names. -/
import Derived.Test.YtpalalebligmoaaGreatDoorS0
set_option maxRecDepth 20000
set_option linter.unusedSimpArgs false
set_option linter.unusedVariables false
namespace Go.Cb.CodeA
open Go Go.Cb
open Nat (reduceAdd reduceSub reduceLeDiff reduceEqDiff)
attribute [local congr] obind_congr gv_congr2 gv2_congr brT_congr seqK_congr blkK_congr m1_congr gm_congr
theorem len_fresh (acc : List Val) (y : Val) (h : acc.length ≤ 3000) : ((acc.map Val.row).length + 1) * 80 ≤ 2 ^ 47 := by rw [List.length_map]; omega
theorem rows_ok (acc : List Val) : rowsOk 5 (acc.map Val.row) = true := rowsOk_all fun r hr => by
  obtain ⟨v, _, rfl⟩ := List.mem_map.1 hr
  exact v.row_len
theorem listG_at (f : Val → CRes) (b : Bool) (l : List Val) (i : Nat) (acc : List Val) (h : i < l.length) : listG f b (l.drop i) acc = if eqI (f l[i]).2.2 0 then (if (f l[i]).2.1 then listG f b (l.drop (i+1)) (acc ++ [(f l[i]).1]) else if b then cErr 9 else listG f b (l.drop (i+1)) (acc ++ [Val.none])) else cErr (f l[i]).2.2 := by
  rw [List.drop_eq_getElem_cons h, listG]
theorem list_q {p : Bool} {G : St → Prop} (f : Val → CRes) (T : Ty) (hf : ∀ st, G st → ∀ x : Val, x.Ok → EvQ tbl 26 [.agg (Cc p), .agg T.row, .agg x.row] st (fun a st' => G st' ∧ a = ansR (f x)))
    (st : St) (hst : G st) (v : Val) (hv : v.Ok) : EvQ tbl 46 [.agg (Cc p), .agg T.row, .agg v.row] st (fun a st' => G st' ∧ a = ansR (listF f T.bang v)) := by
  rw [Cc] at *
  refine EvQ.body (fn := a46) rfl rfl rfl ?_
  have e0 := v.row_eta
  have eT := T.row_eta
  rw [eT] at hf ⊢
  rw [e0]
  generalize hn : T.name = n at *
  generalize ho : T.of = of at *
  generalize hb : T.bang = b at *
  have main : ∀ (l : List Val) (v9 : AV), (∀ x ∈ l, x.Ok) → l.length ≤ 3000 → listF f b v = listG f b l [] → WC (fun n' => obind (loopO (callF tbl n') n' (a46s13.seq ((ACode.blk 1 (a46s15.seq (a46s17.seq ((ACode.blk 2 a46s31).seq a46s34)))).seq a46s40))
      [.agg [.ptr 14 0, .int .u8 0, .int .i64 0, .str [], .list false [], .list false [], .bool p], .agg [.str n, .list false of, .bool b], .agg [.int .u8 v.kind, .int .i64 v.num, .str v.text, .list false (v.names.map strRow), .list false (v.vals.map Val.row)],
       .box [.ptr 14 0, .int .u8 0, .int .i64 0, .str [], .list false [], .list false [], .bool p], .box [.str n, .list false of, .bool b], .box [.int .u8 v.kind, .int .i64 v.num, .str v.text, .list false (v.names.map strRow), .list false (v.vals.map Val.row)],
       .box [.int .u8 0, .int .i64 0, .str [], .list true [], .list true []], .bool false, .int .i64 0, v9, .box [.int .u8 5, .int .i64 0, .str [], .list true [], .list true []], .undef, .undef, .undef, .undef, .list false (l.map Val.row), .int .i64 (l.length : Int), .int .i64 0] st)
      (seqC (blkC 0 some) (exec (callF tbl n') n' (a46s47.seq ACode.ret)))) (fun o => ∃ r st', finK [ResK.bx 6 true 5, ResK.v 7, ResK.v 8] (some o) = some (r, st') ∧ G st' ∧ r = ansR (listF f b v)) := by
    intro l v9 hl hlen hX
    refine WC.loopR (fun mm fr st' => G st' ∧ ∃ (i : Nat) (acc : List Val) (w11 w12 w13 w14 : AV), i ≤ l.length ∧ mm = l.length - i ∧ acc.length = i ∧ listF f b v = listG f b (l.drop i) acc ∧ fr = [.agg [.ptr 14 0, .int .u8 0, .int .i64 0, .str [], .list false [], .list false [], .bool p], .agg [.str n, .list false of, .bool b], .agg [.int .u8 v.kind, .int .i64 v.num, .str v.text, .list false (v.names.map strRow), .list false (v.vals.map Val.row)],
       .box [.ptr 14 0, .int .u8 0, .int .i64 0, .str [], .list false [], .list false [], .bool p], .box [.str n, .list false of, .bool b], .box [.int .u8 v.kind, .int .i64 v.num, .str v.text, .list false (v.names.map strRow), .list false (v.vals.map Val.row)],
       .box [.int .u8 0, .int .i64 0, .str [], .list true [], .list true []], .bool false, .int .i64 0, v9, .box [.int .u8 5, .int .i64 0, .str [], .list true [], .list true (acc.map Val.row)], w11, w12, w13, w14, .list false (l.map Val.row), .int .i64 (l.length : Int), .int .i64 i]) (m := l.length) ⟨hst, 0, [], _, _, _, _, Nat.zero_le _, rfl, rfl, hX, rfl⟩ ?_
    rintro mm fr st' ⟨hG, i, acc, w11, w12, w13, w14, hi, rfl, hacc, hX, rfl⟩
    simp +contextual -implicitDefEqProofs only [K46, SS, reduceAdd,reduceSub,reduceLeDiff,reduceEqDiff,reduceCtorEq, ltN]
    by_cases hil : i < l.length
    rotate_left
    · rw [List.drop_of_length_le (by omega), listG] at hX
      simp +contextual -implicitDefEqProofs only [K46, SS, reduceAdd,reduceSub,reduceLeDiff,reduceEqDiff,reduceCtorEq, hil]
      refine WC.leave ?_
      simp +contextual -implicitDefEqProofs only [K46, SS, reduceAdd,reduceSub,reduceLeDiff,reduceEqDiff,reduceCtorEq]
      refine WC.ret ⟨_, _, rfl, hG, ?_⟩
      rw [hX, ansR, Val.row_eq]
      rfl
    have e2 := val_at hil
    have hx := hf _ hG _ (hl _ (List.getElem_mem hil))
    rw [listG_at f b l i acc hil] at hX
    revert e2 hX hx
    generalize l[i] = x
    intro hX e2 hx
    rw [x.row_eta] at e2 hx
    simp +contextual -implicitDefEqProofs only [K46, SS, reduceAdd,reduceSub,reduceLeDiff,reduceEqDiff,reduceCtorEq, hil, e2]
    refine WC.call hx rfl rfl ?_
    rintro _ _ ⟨hG', rfl⟩
    revert hX
    generalize f x = r
    obtain ⟨y, ok, e⟩ := r
    intro hX
    dsimp only at hX
    rw [ansR, y.row_eta]
    dsimp only
    have hlm : ((acc.map Val.row).length + 1) * 80 ≤ 2 ^ 47 := len_fresh acc y (by omega)
    have hinc := inc64 (show i + 1 < 2 ^ 63 by omega)
    rcases bool_tf (eqI e 0) with he | he
    rotate_left
    · rw [if_neg (by rw [he]; decide)] at hX
      simp +contextual -implicitDefEqProofs only [K46, SS, reduceAdd,reduceSub,reduceLeDiff,reduceEqDiff,reduceCtorEq, he]
      refine WC.leaveR ?_
      simp +contextual -implicitDefEqProofs only [K46, SS, reduceAdd,reduceSub,reduceLeDiff,reduceEqDiff,reduceCtorEq]
      refine WC.ret ⟨_, _, rfl, hG', ?_⟩
      rw [hX, ansR, cErr, Val.none_row]
      rfl
    rw [if_pos he] at hX
    cases ok with
    | true =>
      rw [if_pos rfl] at hX
      simp +contextual -implicitDefEqProofs only [K46, SS, reduceAdd,reduceSub,reduceLeDiff,reduceEqDiff,reduceCtorEq, he, rows_ok, hlm, hinc]
      have hrow : acc.map Val.row ++ [[.int .u8 y.kind, .int .i64 y.num, .str y.text, .list false (y.names.map strRow), .list false (y.vals.map Val.row)]] = (acc ++ [y]).map Val.row := by
        rw [List.map_append, List.map_cons, List.map_nil, y.row_eta]
      rw [hrow]
      exact WC.next (m' := l.length - (i + 1)) (by omega) ⟨hG', i + 1, acc ++ [y], _, _, _, _, hil, rfl, by simp [hacc], hX, rfl⟩
    | false =>
      rw [if_neg (by decide)] at hX
      cases b with
      | true =>
        rw [if_pos rfl] at hX
        simp +contextual -implicitDefEqProofs only [K46, SS, reduceAdd,reduceSub,reduceLeDiff,reduceEqDiff,reduceCtorEq, he]
        refine WC.leaveR ?_
        simp +contextual -implicitDefEqProofs only [K46, SS, reduceAdd,reduceSub,reduceLeDiff,reduceEqDiff,reduceCtorEq]
        refine WC.ret ⟨_, _, rfl, hG', ?_⟩
        rw [hX, ansR, cErr, Val.none_row]
        rfl
      | false =>
        rw [if_neg (by decide)] at hX
        simp +contextual -implicitDefEqProofs only [K46, SS, reduceAdd,reduceSub,reduceLeDiff,reduceEqDiff,reduceCtorEq, he, rows_ok, hlm, hinc]
        have hrow : acc.map Val.row ++ [[.int .u8 0, .int .i64 0, .str [], .list false [], .list false []]] = (acc ++ [Val.none]).map Val.row := by
          rw [List.map_append, List.map_cons, List.map_nil, Val.none_row]
        rw [hrow]
        exact WC.next (m' := l.length - (i + 1)) (by omega) ⟨hG', i + 1, acc ++ [Val.none], _, _, _, _, hil, rfl, by simp [hacc], hX, rfl⟩
  simp +contextual -implicitDefEqProofs only [K46, SS, reduceAdd,reduceSub,reduceLeDiff,reduceEqDiff,reduceCtorEq]
  refine WC.br (fun h5 => ?_) (fun h5 => ?_)
  · simp +contextual -implicitDefEqProofs only [K46, SS, reduceAdd,reduceSub,reduceLeDiff,reduceEqDiff,reduceCtorEq, h5, List.length_map]
    refine main v.vals _ hv.sub ?_ ?_
    · exact hv.len.2
    · rw [listF, if_pos h5]
  · simp +contextual -implicitDefEqProofs only [K46, SS, reduceAdd,reduceSub,reduceLeDiff,reduceEqDiff,reduceCtorEq, h5, List.length_map]
    have := main [v] (.list true [[.int .u8 v.kind, .int .i64 v.num, .str v.text, .list false (v.names.map strRow), .list false (v.vals.map Val.row)]]) (fun x hx => by simp at hx; subst hx; exact hv) (by simp) (by rw [listF, h5]; rfl)
    rw [List.map_cons, List.map_nil, e0] at this
    exact this
end Go.Cb.CodeA
