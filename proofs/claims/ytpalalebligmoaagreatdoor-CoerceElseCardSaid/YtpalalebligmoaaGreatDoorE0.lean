import Derived.Test.YtpalalebligmoaaGreatDoorP1
import Derived.Test.YtpalalebligmoaaGreatDoorS8
set_option maxRecDepth 20000
set_option linter.unusedSimpArgs false
set_option linter.unusedVariables false
namespace Go.Cb.CodeA
open Go Go.Cb
open Nat (reduceAdd reduceSub reduceLeDiff reduceEqDiff)
attribute [local congr] obind_congr gv_congr2 gv2_congr brT_congr seqK_congr blkK_congr m1_congr gm_congr
/-- the schema, and one object more that stays -/
def GX (o : Nat) (X : Cb.Obj) (st : St) : Prop := Sch st ∧ st[o]? = some X
theorem GX.app {o : Nat} {X : Cb.Obj} {st : St} (h : GX o X st) (e : Cb.Obj) : GX o X (st ++ [e]) := ⟨h.1.app _, by rw [List.getElem?_append_left (List.getElem?_eq_some_iff.1 h.2).1]; exact h.2⟩
theorem GX.set {o oo : Nat} {X : Cb.Obj} {st : St} (h : GX o X st) (h1 : 24 ≤ oo) (h2 : oo ≠ o) (x : Cb.Obj) : GX o X (st.set oo x) := ⟨h.1.set h1 x, by rw [List.getElem?_set_ne h2]; exact h.2⟩
def val0 (p : Bool) (T : Ty) (v : Val) : CRes := valueF p (N0 p) T v
theorem input0_q {G : St → Prop} (hG : ∀ st, G st → Sch st) (T : Ty) (hT : T.leaf ≠ [73]) {st : St} (hst : G st) {v : Val} (hv : v.Ok) : EvQ tbl 13 [.ptr 14 0, .agg T.row, .agg v.row] st (fun a st' => G st' ∧ a = .tuple [.agg (val0 true T v).1.row, .int .i64 (val0 true T v).2.2]) := by
  have hq := value0_q T hT true G hG st hst v hv
  rw [Cc, v.row_eta, T.row_eta] at hq
  rw [v.row_eta, T.row_eta]
  refine EvQ.body (fn := a13) rfl rfl rfl ?_
  simp +contextual -implicitDefEqProofs only [K13, SS, reduceAdd,reduceSub,reduceLeDiff,reduceEqDiff,reduceCtorEq]
  refine WC.call hq rfl rfl ?_
  rintro _ _ ⟨hS, rfl⟩
  rw [show valueF true (N0 true) T v = val0 true T v from rfl, ansR, (val0 true T v).1.row_eta]
  simp +contextual -implicitDefEqProofs only [K13, SS, reduceAdd,reduceSub,reduceLeDiff,reduceEqDiff,reduceCtorEq]
  exact WC.ret ⟨_, _, rfl, hS, rfl⟩
theorem literal0_q {G : St → Prop} (hG : ∀ st, G st → Sch st) (T : Ty) (hT : T.leaf ≠ [73]) {st : St} (hst : G st) {v : Val} (hv : v.Ok) : EvQ tbl 19 [.ptr 14 0, .agg T.row, .agg v.row, .agg Val.none.row] st (fun a st' => G st' ∧ a = ansR (val0 false T v)) := by
  have hq := value0_q T hT false G hG st hst v hv
  rw [Cc, v.row_eta, T.row_eta] at hq
  rw [v.row_eta, T.row_eta, Val.none_row]
  refine EvQ.body (fn := a19) rfl rfl rfl ?_
  simp +contextual -implicitDefEqProofs only [K19, SS, reduceAdd,reduceSub,reduceLeDiff,reduceEqDiff,reduceCtorEq]
  refine WC.call hq rfl rfl ?_
  rintro _ _ ⟨hS, rfl⟩
  rw [show valueF false (N0 false) T v = val0 false T v from rfl, ansR, (val0 false T v).1.row_eta]
  simp +contextual -implicitDefEqProofs only [K19, SS, reduceAdd,reduceSub,reduceLeDiff,reduceEqDiff,reduceCtorEq]
  exact WC.ret ⟨_, _, rfl, hS, rfl⟩
def v5 : Val := .mk 1 5 [] [] []
def tyI (bang : Bool) : Ty := .one sInt bang
def drow (has bang : Bool) : List AV := [.str [120], .str [73, 110, 116], .list false [], .bool bang, .bool has, .int .u8 1, .int .i64 5, .str [], .list false [], .list false []]
def varR (u : Val) (ok has bang : Bool) : CRes := if ok then ((val0 true (tyI bang) u).1, true, (val0 true (tyI bang) u).2.2) else if has then val0 false (tyI bang) v5 else if bang then (u, false, 9) else (u, false, 0)
def varA (r : CRes) : AV := if eqI r.2.2 0 then (if r.2.1 then .tuple [.agg (Val.mk 6 0 [] [[120]] [r.1]).row, .str [], .int .i64 0] else .tuple [.agg (Val.mk 6 0 [] [] []).row, .str [], .int .i64 0]) else .tuple [.agg Val.none.row, .str [120], .int .i64 r.2.2]
theorem vars_q (o : Nat) (X : Cb.Obj) {st : St} (hst : GX o X st) (Ks : List (List AV)) (L : AV) (hL : L.weak1 = L) (u : Val) (hu : u.Ok) (ok has bang : Bool)
    (hget : ∀ st, GX o X st → EvQ tbl 16 [.agg [.int .u8 6, .int .i64 0, .str [], .list false Ks, L], .str [120]] st (fun a st' => st' = st ∧ a = .tuple [.agg u.row, .bool ok])) :
    EvQ tbl 20 [.ptr 14 0, .list false [drow has bang], .agg [.int .u8 6, .int .i64 0, .str [], .list false Ks, L]] st (fun a st' => GX o X st' ∧ a = varA (varR u ok has bang)) := by
  rw [u.row_eta] at hget
  unfold drow
  have hok5 : v5.Ok := .of (by decide) (by decide) (by decide) (by decide) (by simp)
  have eT : (tyI bang).row = [.str [73, 110, 116], .list false [], .bool bang] := rfl
  have e5 : v5.row = [.int .u8 1, .int .i64 5, .str [], .list false [], .list false []] := by unfold v5; rw [Val.row_eq]; rfl
  have hnl : st.length ≠ o := fun e => by have := (List.getElem?_eq_some_iff.1 hst.2).1; omega
  have hn24 : 24 ≤ st.length := hst.1.len
  have hst1 := hst.app (outObj [] [])
  have hob : (st ++ [outObj [] []])[st.length]? = some (outObj [] []) := get_app _ _
  refine EvQ.body (fn := a20) rfl rfl rfl ?_
  simp +contextual -implicitDefEqProofs only [K20, SS, reduceAdd,reduceSub,reduceLeDiff,reduceEqDiff,reduceCtorEq, hL, get_app, set_app, List.length_cons, List.length_nil]
  generalize hoo : st.length = oo at *
  refine WC.loopR (fun mm fr st' => (mm = 1 ∧ st' = st ++ [outObj [] []] ∧ fr = [.ptr 14 0, .list false [[.str [120], .str [73, 110, 116], .list false [], .bool bang, .bool has, .int .u8 1, .int .i64 5, .str [], .list false [], .list false []]], .agg [.int .u8 6, .int .i64 0, .str [], .list false Ks, L], .box [.int .u8 6, .int .i64 0, .str [], .list false Ks, L], .box [.int .u8 0, .int .i64 0, .str [], .list true [], .list true []], .str [], .int .i64 0, .ptr oo 0, .undef, .undef, .undef, .undef, .list false [[.str [120], .str [73, 110, 116], .list false [], .bool bang, .bool has, .int .u8 1, .int .i64 5, .str [], .list false [], .list false []]], .int .i64 ((0 + 1 : Nat) : Int), .int .i64 ((0 : Nat) : Int)]) ∨ (mm = 0 ∧ GX o X st' ∧ eqI (varR u ok has bang).2.2 0 = true ∧ (∃ w8 w9 w10 w11, st'[oo]? = some (if (varR u ok has bang).2.1 then outObj [[120]] [(varR u ok has bang).1] else outObj [] []) ∧ fr = [.ptr 14 0, .list false [[.str [120], .str [73, 110, 116], .list false [], .bool bang, .bool has, .int .u8 1, .int .i64 5, .str [], .list false [], .list false []]], .agg [.int .u8 6, .int .i64 0, .str [], .list false Ks, L], .box [.int .u8 6, .int .i64 0, .str [], .list false Ks, L], .box [.int .u8 0, .int .i64 0, .str [], .list true [], .list true []], .str [], .int .i64 0, .ptr oo 0, w8, w9, w10, w11, .list false [[.str [120], .str [73, 110, 116], .list false [], .bool bang, .bool has, .int .u8 1, .int .i64 5, .str [], .list false [], .list false []]], .int .i64 ((0 + 1 : Nat) : Int), .int .i64 ((1 : Nat) : Int)]))) (m := 1) (.inl ⟨rfl, rfl, rfl⟩) ?_
  have hin := fun st (h : GX o X st ∧ st[oo]? = some (outObj [] [])) => input0_q (G := fun st => GX o X st ∧ st[oo]? = some (outObj [] [])) (fun st h => h.1.1) (tyI bang) (show sInt ≠ [73] by decide) h hu
  have hlit := fun st (h : GX o X st ∧ st[oo]? = some (outObj [] [])) => literal0_q (G := fun st => GX o X st ∧ st[oo]? = some (outObj [] [])) (fun st h => h.1.1) (tyI bang) (show sInt ≠ [73] by decide) h hok5
  rw [u.row_eta, eT] at hin
  rw [eT, e5, Val.none_row] at hlit
  rintro mm fr st' (⟨rfl, rfl, rfl⟩ | ⟨rfl, hG, hR, w8, w9, w10, w11, hO, rfl⟩)
  · have hS : GX o X (st ++ [outObj [] []]) ∧ (st ++ [outObj [] []])[oo]? = some (outObj [] []) := ⟨hst1, hob⟩
    simp +contextual -implicitDefEqProofs only [K20, SS, reduceAdd,reduceSub,reduceLeDiff,reduceEqDiff,reduceCtorEq, hL, ltN, show (0 < 0 + 1) = True by simp, show (0 < 1) = True by simp, List.getElem?_cons_zero]
    refine WC.call (hget _ hst1) rfl (by simp only [List.map_cons, List.map_nil, weak_agg, weak1_int, weak1_str, weak1_list, hL, weak_str]) ?_
    rintro _ _ ⟨rfl, rfl⟩
    cases ok with
    | true =>
      simp +contextual -implicitDefEqProofs only [K20, SS, reduceAdd,reduceSub,reduceLeDiff,reduceEqDiff,reduceCtorEq]
      refine WC.call (hin _ hS) rfl rfl ?_
      rintro _ _ ⟨hS, rfl⟩
      obtain ⟨r, hr⟩ : ∃ r, val0 true (tyI bang) u = r := ⟨_, rfl⟩
      have hR : varR u true has bang = (r.1, true, r.2.2) := by unfold varR; rw [if_pos rfl, hr]
      rw [hr]
      obtain ⟨y, ok1, e⟩ := r
      dsimp only at hR ⊢
      rw [Val.row_eta y]
      obtain ⟨ok2, hok2⟩ : ∃ b : Bool, b = true := ⟨_, rfl⟩
      simp +contextual -implicitDefEqProofs only [K20, SS, reduceAdd,reduceSub,reduceLeDiff,reduceEqDiff,reduceCtorEq]
      rcases bool_tf (eqI e 0) with he | he
      rotate_left
      · simp +contextual -implicitDefEqProofs only [K20, SS, reduceAdd,reduceSub,reduceLeDiff,reduceEqDiff,reduceCtorEq, he]
        refine WC.leaveR ?_
        simp +contextual -implicitDefEqProofs only [K20, SS, reduceAdd,reduceSub,reduceLeDiff,reduceEqDiff,reduceCtorEq]
        refine WC.ret ⟨_, _, rfl, hS.1, ?_⟩
        rw [hR, varA, if_neg (by dsimp only; rw [he]; decide), Val.none_row]
        rfl
      · skip
        have hpu := put_q hS.2 [120] y (by decide) (by decide)
        rw [Val.row_eta y] at hpu
        simp +contextual -implicitDefEqProofs only [K20, SS, reduceAdd,reduceSub,reduceLeDiff,reduceEqDiff,reduceCtorEq, he]
        refine WC.call hpu rfl rfl ?_
        rintro _ _ rfl
        simp +contextual -implicitDefEqProofs only [K20, SS, reduceAdd,reduceSub,reduceLeDiff,reduceEqDiff,reduceCtorEq, inc64 (i := 0) (by decide)]
        exact WC.next (m' := 0) (by decide) (.inr ⟨rfl, hS.1.set hn24 hnl _, by rw [hR]; exact he, _, _, _, _, by rw [hR]; exact set_get (List.getElem?_eq_some_iff.1 hS.2).1 _, rfl⟩)
    | false =>
      cases has with
      | true =>
        simp +contextual -implicitDefEqProofs only [K20, SS, reduceAdd,reduceSub,reduceLeDiff,reduceEqDiff,reduceCtorEq]
        refine WC.call (hlit _ hS) rfl rfl ?_
        rintro _ _ ⟨hS, rfl⟩
        obtain ⟨r, hr⟩ : ∃ r, val0 false (tyI bang) v5 = r := ⟨_, rfl⟩
        have hR : varR u false true bang = r := by unfold varR; rw [if_neg (by decide), if_pos rfl, hr]
        rw [hr]
        obtain ⟨y, ok1, e⟩ := r
        rw [ansR, Val.row_eta y]
        dsimp only
        simp +contextual -implicitDefEqProofs only [K20, SS, reduceAdd,reduceSub,reduceLeDiff,reduceEqDiff,reduceCtorEq]
        rcases bool_tf (eqI e 0) with he | he
        rotate_left
        · simp +contextual -implicitDefEqProofs only [K20, SS, reduceAdd,reduceSub,reduceLeDiff,reduceEqDiff,reduceCtorEq, he]
          refine WC.leaveR ?_
          simp +contextual -implicitDefEqProofs only [K20, SS, reduceAdd,reduceSub,reduceLeDiff,reduceEqDiff,reduceCtorEq]
          refine WC.ret ⟨_, _, rfl, hS.1, ?_⟩
          rw [hR, varA, if_neg (by dsimp only; rw [he]; decide), Val.none_row]
          rfl
        cases ok1 with
        | true =>
          have hpu := put_q hS.2 [120] y (by decide) (by decide)
          rw [Val.row_eta y] at hpu
          simp +contextual -implicitDefEqProofs only [K20, SS, reduceAdd,reduceSub,reduceLeDiff,reduceEqDiff,reduceCtorEq, he]
          refine WC.call hpu rfl rfl ?_
          rintro _ _ rfl
          simp +contextual -implicitDefEqProofs only [K20, SS, reduceAdd,reduceSub,reduceLeDiff,reduceEqDiff,reduceCtorEq, inc64 (i := 0) (by decide)]
          exact WC.next (m' := 0) (by decide) (.inr ⟨rfl, hS.1.set hn24 hnl _, by rw [hR]; exact he, _, _, _, _, by rw [hR]; exact set_get (List.getElem?_eq_some_iff.1 hS.2).1 _, rfl⟩)
        | false =>
          simp +contextual -implicitDefEqProofs only [K20, SS, reduceAdd,reduceSub,reduceLeDiff,reduceEqDiff,reduceCtorEq, he, inc64 (i := 0) (by decide)]
          exact WC.next (m' := 0) (by decide) (.inr ⟨rfl, hS.1, by rw [hR]; exact he, _, _, _, _, by rw [hR]; exact hS.2, rfl⟩)
      | false =>
        cases bang with
        | true =>
          have hR : varR u false false true = (u, false, 9) := rfl
          simp +contextual -implicitDefEqProofs only [K20, SS, reduceAdd,reduceSub,reduceLeDiff,reduceEqDiff,reduceCtorEq, show eqI 9 0 = false from rfl]
          refine WC.leaveR ?_
          simp +contextual -implicitDefEqProofs only [K20, SS, reduceAdd,reduceSub,reduceLeDiff,reduceEqDiff,reduceCtorEq]
          refine WC.ret ⟨_, _, rfl, hS.1, ?_⟩
          rw [hR, varA, if_neg (show ¬ eqI 9 0 = true by decide), Val.none_row]
          rfl
        | false =>
          have hR : varR u false false false = (u, false, 0) := rfl
          simp +contextual -implicitDefEqProofs only [K20, SS, reduceAdd,reduceSub,reduceLeDiff,reduceEqDiff,reduceCtorEq, show eqI 0 0 = true from rfl, inc64 (i := 0) (by decide)]
          exact WC.next (m' := 0) (by decide) (.inr ⟨rfl, hS.1, by rw [hR]; rfl, _, _, _, _, by rw [hR]; exact hS.2, rfl⟩)
  · unfold outObj at hO
    simp +contextual -implicitDefEqProofs only [K20, SS, reduceAdd,reduceSub,reduceLeDiff,reduceEqDiff,reduceCtorEq, ltN, show (1 < 0 + 1) = False by simp, show (1 < 1) = False by simp]
    refine WC.leave ?_
    cases hok2 : (varR u ok has bang).2.1 with
    | true =>
      rw [hok2, if_pos rfl] at hO
      simp +contextual -implicitDefEqProofs only [K20, SS, reduceAdd,reduceSub,reduceLeDiff,reduceEqDiff,reduceCtorEq, hO]
      refine WC.ret ⟨_, _, rfl, hG, ?_⟩
      rw [varA, if_pos hR, if_pos hok2, Val.row_eq]
      rfl
    | false =>
      rw [hok2, if_neg (by decide)] at hO
      simp +contextual -implicitDefEqProofs only [K20, SS, reduceAdd,reduceSub,reduceLeDiff,reduceEqDiff,reduceCtorEq, hO]
      refine WC.ret ⟨_, _, rfl, hG, ?_⟩
      rw [varA, if_pos hR, if_neg (by rw [hok2]; decide), Val.row_eq]
      rfl
end Go.Cb.CodeA
