/- What functions of the abstract machine answer. No conditions but those that each theorem names. -/
import Derived.Test.YtpalalebligmoaaGreatDoorS5
set_option maxRecDepth 20000
set_option linter.unusedSimpArgs false
set_option linter.unusedVariables false
namespace Go.Cb.CodeA
open Go Go.Cb
open Nat (reduceAdd reduceSub reduceLeDiff reduceEqDiff)
attribute [local congr] obind_congr gv_congr2 gv2_congr brT_congr seqK_congr blkK_congr m1_congr gm_congr
def badL (F : List FD) (seen : List (List Nat)) : List (List Nat) → Int
  | [] => 0
  | k :: ks => if (gI seen k).isSome then 7 else if memF F k then badL F (seen ++ [k]) ks else 6
theorem badL_at (F : List FD) (K : List (List Nat)) (i : Nat) (h : i < K.length) : badL F (K.take i) (K.drop i) = if (gI (K.take i) K[i]).isSome then 7 else if memF F K[i] then badL F (K.take (i + 1)) (K.drop (i + 1)) else 6 := by
  rw [List.drop_eq_getElem_cons h, badL, List.take_add_one, List.getElem?_eq_getElem h]
  rfl
def dflF (N : Bool → List Nat → Val → CRes) (f : FD) (r0 : CRes) : CRes := if eqI r0.2.2 0 && !r0.2.1 && f.has then valueF false (N false) f.T f.v else r0
def giveF (N : Bool → List Nat → Val → CRes) (p : Bool) (f : FD) (v : Val) : CRes := dflF N f (match v.at f.name with | some x => valueF p (N p) f.T x | none => (Val.none, false, 0))
def goF (N : Bool → List Nat → Val → CRes) (p : Bool) (v : Val) : List FD → List (List Nat) → List Val → CRes
  | [], ks, ls => (.mk 6 0 [] ks ls, true, 0)
  | f :: F, ks, ls => if eqI (giveF N p f v).2.2 0 then (if (giveF N p f v).2.1 then goF N p v F (ks ++ [f.name]) (ls ++ [(giveF N p f v).1]) else if f.T.bang then cErr 9 else goF N p v F ks ls) else cErr (giveF N p f v).2.2
def fieldsF (N : Bool → List Nat → Val → CRes) (F : List FD) (p : Bool) (v : Val) : CRes := if eqI (badL F [] v.names) 0 then goF N p v F [] [] else cErr (badL F [] v.names)
theorem Sch.set {st : St} (h : Sch st) {o : Nat} (ho : 24 ≤ o) (x : Cb.Obj) : Sch (st.set o x) := by
  obtain ⟨h1, h2, h3⟩ := h
  exact ⟨by rw [List.getElem?_set_ne (by omega)]; exact h1, by rw [List.getElem?_set_ne (by omega)]; exact h2, by rw [List.getElem?_set_ne (by omega)]; exact h3⟩
theorem Sch.len {st : St} (h : Sch st) : 24 ≤ st.length := (List.getElem?_eq_some_iff.1 h.r).1
theorem at_ok {v : Val} (h : v.Ok) {n : List Nat} {x : Val} (hx : v.at n = some x) : x.Ok := by
  refine h.sub x ?_
  cases v with | mk k m s ks ls =>
    rw [Val.at] at hx
    split at hx
    · split at hx
      · exact List.mem_of_getElem? hx
      · cases hx
    · cases hx
theorem set_app (st : St) (a b : Cb.Obj) : (st ++ [a]).set st.length b = st ++ [b] := by simp
theorem get_app (st : St) (a : Cb.Obj) : (st ++ [a])[st.length]? = some a := by simp
theorem fields_q (N : Bool → List Nat → Val → CRes) (F : List FD) (hFl : F.length ≤ 3000) (hFv : ∀ f ∈ F, f.v.Ok)
    (hV : ∀ f ∈ F, ∀ (p : Bool) (G : St → Prop), (∀ st, G st → Sch st) → ∀ st, G st → ∀ x : Val, x.Ok → EvQ tbl 26 [.agg (Cc p), .agg f.T.row, .agg x.row] st (fun a st' => G st' ∧ a = ansR (valueF p (N p) f.T x)))
    (p : Bool) {st : St} (hst : Sch st) (v : Val) (hv : v.Ok) :
    EvQ tbl 76 [.agg (Cc p), .list false (F.map FD.row), .agg v.row] st (fun a st' => Sch st' ∧ ∃ s, a = .tuple [.agg (fieldsF N F p v).1.row, .str s, .int .i64 (fieldsF N F p v).2.2]) := by
  have hev := hv.ev
  have hlen := hv.len
  have hg := fun n st => get_q hv.fin hv.even n st
  have hat := fun (n : List Nat) (x : Val) (h : v.at n = some x) => at_ok hv h
  unfold fieldsF
  generalize hK : v.names = K at *
  rw [v.row_eta, hK] at hg ⊢
  unfold Cc at *
  refine EvQ.body (fn := a76) rfl rfl rfl ?_
  simp +contextual -implicitDefEqProofs only [K76, SS, reduceAdd,reduceSub,reduceLeDiff,reduceEqDiff,reduceCtorEq, List.length_map]
  refine WC.loopR (fun mm fr st' => Sch st' ∧ ∃ (i : Nat) (v8 v9 : AV), i ≤ K.length ∧ mm = K.length - i ∧ badL F [] K = badL F (K.take i) (K.drop i) ∧ fr = [.agg [.ptr 14 0, .int .u8 0, .int .i64 0, .str [], .list false [], .list false [], .bool p], .list false (F.map FD.row), .agg [.int .u8 v.kind, .int .i64 v.num, .str v.text, .list false (K.map strRow), .list false (v.vals.map Val.row)],
     .box [.ptr 14 0, .int .u8 0, .int .i64 0, .str [], .list false [], .list false [], .bool p], .box [.int .u8 v.kind, .int .i64 v.num, .str v.text, .list false (K.map strRow), .list false (v.vals.map Val.row)], .box [.int .u8 0, .int .i64 0, .str [], .list true [], .list true []], .str [], .int .i64 0, v8, v9, .undef, .undef, .undef, .undef, .undef, .list false (K.map strRow), .int .i64 K.length, .int .i64 i, .undef, .undef, .undef]) (m := K.length) ⟨hst, 0, _, _, Nat.zero_le _, rfl, rfl, rfl⟩ ?_
  rintro mm fr st' ⟨hS, i, v8, v9, hi, rfl, hX, rfl⟩
  simp +contextual -implicitDefEqProofs only [K76, SS, reduceAdd,reduceSub,reduceLeDiff,reduceEqDiff,reduceCtorEq, ltN]
  by_cases hil : i < K.length
  · have e2 := str_at hil
    rw [badL_at F K i hil] at hX
    revert e2 hX
    generalize K[i] = k
    intro hX e2
    have hS' := hS.app [.cells [.str k]]
    have hcq := contains_q (K.take i) (by rw [List.length_take]; omega) k (st' ++ [.cells [.str k]])
    rw [List.map_take] at hcq
    have hle : i ≤ K.length := hi
    simp +contextual -implicitDefEqProofs only [K76, SS, reduceAdd,reduceSub,reduceLeDiff,reduceEqDiff,reduceCtorEq, hil, e2, get_app, set_app, List.length_map, hle, rowsS]
    refine WC.call hcq rfl rfl ?_
    rintro _ _ ⟨rfl, rfl⟩
    rcases bool_tf (gI (K.take i) k).isSome with c1 | c1
    · rw [if_pos c1] at hX
      simp +contextual -implicitDefEqProofs only [K76, SS, reduceAdd,reduceSub,reduceLeDiff,reduceEqDiff,reduceCtorEq, c1, get_app]
      refine WC.leaveR ?_
      simp +contextual -implicitDefEqProofs only [K76, SS, reduceAdd,reduceSub,reduceLeDiff,reduceEqDiff,reduceCtorEq]
      refine WC.ret ⟨_, _, rfl, hS', k, ?_⟩
      rw [hX, show eqI 7 0 = false from rfl, if_neg (by decide), cErr, Val.none_row]
      rfl
    rw [if_neg (by rw [c1]; decide)] at hX
    simp +contextual -implicitDefEqProofs only [K76, SS, reduceAdd,reduceSub,reduceLeDiff,reduceEqDiff,reduceCtorEq, c1]
    refine WC.call (contf_q F hFl k (get_app _ _)) rfl rfl ?_
    rintro _ _ ⟨rfl, rfl⟩
    rcases bool_tf (memF F k) with c2 | c2
    · rw [if_pos c2] at hX
      simp +contextual -implicitDefEqProofs only [K76, SS, reduceAdd,reduceSub,reduceLeDiff,reduceEqDiff,reduceCtorEq, c2, Bool.not_true, inc64 (show i + 1 < 2 ^ 63 by omega)]
      exact WC.next (m' := K.length - (i + 1)) (by omega) ⟨hS', i + 1, _, _, hil, rfl, hX, rfl⟩
    · rw [if_neg (by rw [c2]; decide)] at hX
      simp +contextual -implicitDefEqProofs only [K76, SS, reduceAdd,reduceSub,reduceLeDiff,reduceEqDiff,reduceCtorEq, c2, Bool.not_false, get_app]
      refine WC.leaveR ?_
      simp +contextual -implicitDefEqProofs only [K76, SS, reduceAdd,reduceSub,reduceLeDiff,reduceEqDiff,reduceCtorEq]
      refine WC.ret ⟨_, _, rfl, hS', k, ?_⟩
      rw [hX, show eqI 6 0 = false from rfl, if_neg (by decide), cErr, Val.none_row]
      rfl
  · rw [List.drop_of_length_le (show K.length ≤ i by omega), badL] at hX
    rw [hX, show eqI 0 0 = true from rfl, if_pos rfl]
    simp +contextual -implicitDefEqProofs only [K76, SS, reduceAdd,reduceSub,reduceLeDiff,reduceEqDiff,reduceCtorEq, hil]
    refine WC.leave ?_
    simp +contextual -implicitDefEqProofs only [K76, SS, reduceAdd,reduceSub,reduceLeDiff,reduceEqDiff,reduceCtorEq, get_app, set_app, List.length_map]
    generalize hV17 : AV.int .i64 (i : Int) = v17
    generalize ho' : st'.length = o
    have ho : 24 ≤ o := by rw [← ho']; exact hS.len
    have hS1 : Sch (st' ++ [outObj [] []]) ∧ (st' ++ [outObj [] []])[o]? = some (outObj [] []) := ⟨hS.app _, by rw [← ho']; exact get_app _ _⟩
    generalize hR : goF N p v F [] [] = R
    have hX0 : R = goF N p v (F.drop 0) [] [] := hR.symm
    refine WC.loopR (fun mm fr st' => ∃ (i : Nat) (ks : List (List Nat)) (ls : List Val) (v8 v9 v11 v12 v13 v14 v17 : AV), (Sch st' ∧ st'[o]? = some (outObj ks ls)) ∧ i ≤ F.length ∧ mm = F.length - i ∧ ks.length ≤ i ∧ ls.length ≤ i ∧ R = goF N p v (F.drop i) ks ls ∧ fr = [.agg [.ptr 14 0, .int .u8 0, .int .i64 0, .str [], .list false [], .list false [], .bool p], .list false (F.map FD.row), .agg [.int .u8 v.kind, .int .i64 v.num, .str v.text, .list false (K.map strRow), .list false (v.vals.map Val.row)],
     .box [.ptr 14 0, .int .u8 0, .int .i64 0, .str [], .list false [], .list false [], .bool p], .box [.int .u8 v.kind, .int .i64 v.num, .str v.text, .list false (K.map strRow), .list false (v.vals.map Val.row)], .box [.int .u8 0, .int .i64 0, .str [], .list true [], .list true []], .str [], .int .i64 0, v8, v9, .ptr o 0, v11, v12, v13, v14, .list false (K.map strRow), .int .i64 K.length, v17, .list false (F.map FD.row), .int .i64 F.length, .int .i64 i]) (m := F.length) ⟨0, [], [], _, _, _, _, _, _, _, hS1, Nat.zero_le _, rfl, Nat.le_refl _, Nat.le_refl _, hX0, rfl⟩ ?_
    clear hX0 hS1 hV17 hX ho' hil hi hR
    clear i
    rintro mm fr st2 ⟨i, ks, ls, v8, v9, v11, v12, v13, v14, v17, hS2, hi, rfl, hkl, hll, hX, rfl⟩
    simp +contextual -implicitDefEqProofs only [K76, SS, reduceAdd,reduceSub,reduceLeDiff,reduceEqDiff,reduceCtorEq, ltN]
    by_cases hil : i < F.length
    rotate_left
    · rw [List.drop_of_length_le (show F.length ≤ i by omega), goF] at hX
      have ho2 := hS2.2
      unfold outObj at ho2
      simp +contextual -implicitDefEqProofs only [K76, SS, reduceAdd,reduceSub,reduceLeDiff,reduceEqDiff,reduceCtorEq, hil]
      refine WC.leave ?_
      simp +contextual -implicitDefEqProofs only [K76, SS, reduceAdd,reduceSub,reduceLeDiff,reduceEqDiff,reduceCtorEq, ho2]
      refine WC.ret ⟨_, _, rfl, hS2.1, [], ?_⟩
      rw [hX, Val.row_eq]
      rfl
    have hinc := inc64 (show i + 1 < 2 ^ 63 by omega)
    have hf : F[i] ∈ F := List.getElem_mem hil
    have e2 : (F.map FD.row)[i]? = some (F[i]).row := by rw [List.getElem?_map, List.getElem?_eq_getElem hil]; rfl
    rw [List.drop_eq_getElem_cons hil, goF] at hX
    revert e2 hX hf
    generalize F[i] = f
    intro hX hf e2
    rw [FD.row] at e2
    simp +contextual -implicitDefEqProofs only [K76, SS, reduceAdd,reduceSub,reduceLeDiff,reduceEqDiff,reduceCtorEq, hil, e2]
    refine WC.call (hg f.name _) rfl rfl ?_
    rintro _ _ ⟨rfl, rfl⟩
    have hat' := hat f.name
    have hgv : giveF N p f v = dflF N f (match v.at f.name with | some x => valueF p (N p) f.T x | none => (Val.none, false, 0)) := rfl
    revert hat' hgv
    cases v.at f.name with
    | none =>
      intro _ hgv
      have hgv : giveF N p f v = dflF N f (Val.none, false, 0) := hgv
      rw [hgv] at hX
      rw [getA, Option.getD_none, Val.none_row]
      dsimp only [Option.isSome]
      simp +contextual -implicitDefEqProofs only [K76, SS, reduceAdd,reduceSub,reduceLeDiff,reduceEqDiff,reduceCtorEq]
      rcases bool_tf f.has with hd | hd
      · rw [show dflF N f (Val.none, false, 0) = valueF false (N false) f.T f.v from if_pos (by rw [hd]; rfl)] at hX
        have hq := hV f hf false (fun st => Sch st ∧ st[o]? = some (outObj ks ls)) (fun st h => h.1) _ hS2 f.v (hFv f hf)
        rw [f.v.row_eta, f.T.row_eta] at hq
        simp +contextual -implicitDefEqProofs only [K76, SS, reduceAdd,reduceSub,reduceLeDiff,reduceEqDiff,reduceCtorEq, show (eqI 0 0 && f.has) = true by rw [hd]; rfl]
        refine WC.call hq rfl rfl ?_
        rintro _ _ ⟨hS2, rfl⟩
        revert hX
        generalize valueF false (N false) f.T f.v = r
        obtain ⟨y2, ok2, e2⟩ := r
        intro hX
        dsimp only at hX
        rw [ansR, Val.row_eta y2]
        dsimp only
        simp +contextual -implicitDefEqProofs only [K76, SS, reduceAdd,reduceSub,reduceLeDiff,reduceEqDiff,reduceCtorEq]
        rcases bool_tf (eqI e2 0) with he | he
        rotate_left
        · rw [if_neg (by rw [he]; decide)] at hX
          simp +contextual -implicitDefEqProofs only [K76, SS, reduceAdd,reduceSub,reduceLeDiff,reduceEqDiff,reduceCtorEq, he]
          refine WC.leaveR ?_
          simp +contextual -implicitDefEqProofs only [K76, SS, reduceAdd,reduceSub,reduceLeDiff,reduceEqDiff,reduceCtorEq]
          refine WC.ret ⟨_, _, rfl, hS2.1, f.name, ?_⟩
          rw [hX, cErr, Val.none_row]
          rfl
        rw [if_pos he] at hX
        cases ok2 with
        | true =>
          rw [if_pos rfl] at hX
          simp +contextual -implicitDefEqProofs only [K76, SS, reduceAdd,reduceSub,reduceLeDiff,reduceEqDiff,reduceCtorEq, he]
          have hpu := put_q hS2.2 f.name y2 (by omega) (by omega)
          rw [Val.row_eta y2] at hpu
          refine WC.call hpu rfl rfl ?_
          rintro _ _ rfl
          simp +contextual -implicitDefEqProofs only [K76, SS, reduceAdd,reduceSub,reduceLeDiff,reduceEqDiff,reduceCtorEq, hinc]
          exact WC.next (m' := F.length - (i + 1)) (by omega) ⟨i + 1, ks ++ [f.name], ls ++ [y2], _, _, _, _, _, _, _, ⟨Sch.set hS2.1 ho _, set_get (List.getElem?_eq_some_iff.1 hS2.2).1 _⟩, hil, rfl, by simp; omega, by simp; omega, hX, rfl⟩
        | false =>
          rw [if_neg (by decide)] at hX
          rcases bool_tf f.T.bang with hb | hb
          · rw [if_pos hb] at hX
            simp +contextual -implicitDefEqProofs only [K76, SS, reduceAdd,reduceSub,reduceLeDiff,reduceEqDiff,reduceCtorEq, he, hb]
            refine WC.leaveR ?_
            simp +contextual -implicitDefEqProofs only [K76, SS, reduceAdd,reduceSub,reduceLeDiff,reduceEqDiff,reduceCtorEq]
            refine WC.ret ⟨_, _, rfl, hS2.1, f.name, ?_⟩
            rw [hX, cErr, Val.none_row]
            rfl
          · rw [if_neg (by rw [hb]; decide)] at hX
            simp +contextual -implicitDefEqProofs only [K76, SS, reduceAdd,reduceSub,reduceLeDiff,reduceEqDiff,reduceCtorEq, he, hb, hinc]
            exact WC.next (m' := F.length - (i + 1)) (by omega) ⟨i + 1, ks, ls, _, _, _, _, _, _, _, hS2, hil, rfl, by omega, by omega, hX, rfl⟩
      · rw [show dflF N f (Val.none, false, 0) = (Val.none, false, 0) from if_neg (by dsimp only; rw [hd]; decide)] at hX
        dsimp only at hX
        rw [if_pos (show eqI 0 0 = true from rfl), if_neg (by decide)] at hX
        simp +contextual -implicitDefEqProofs only [K76, SS, reduceAdd,reduceSub,reduceLeDiff,reduceEqDiff,reduceCtorEq, hd, show eqI 0 0 = true from rfl, Bool.not_true, Bool.true_and]
        rcases bool_tf f.T.bang with hb | hb
        · rw [if_pos hb] at hX
          simp +contextual -implicitDefEqProofs only [K76, SS, reduceAdd,reduceSub,reduceLeDiff,reduceEqDiff,reduceCtorEq, hb]
          refine WC.leaveR ?_
          simp +contextual -implicitDefEqProofs only [K76, SS, reduceAdd,reduceSub,reduceLeDiff,reduceEqDiff,reduceCtorEq]
          refine WC.ret ⟨_, _, rfl, hS2.1, f.name, ?_⟩
          rw [hX, cErr, Val.none_row]
          rfl
        · rw [if_neg (by rw [hb]; decide)] at hX
          simp +contextual -implicitDefEqProofs only [K76, SS, reduceAdd,reduceSub,reduceLeDiff,reduceEqDiff,reduceCtorEq, hb, hinc]
          exact WC.next (m' := F.length - (i + 1)) (by omega) ⟨i + 1, ks, ls, _, _, _, _, _, _, _, hS2, hil, rfl, by omega, by omega, hX, rfl⟩
    | some x =>
      intro hat' hgv
      have hgv : giveF N p f v = dflF N f (valueF p (N p) f.T x) := hgv
      rw [hgv] at hX
      have hxo := hat' x rfl
      have hq := hV f hf p (fun st => Sch st ∧ st[o]? = some (outObj ks ls)) (fun st h => h.1) _ hS2 x hxo
      rw [x.row_eta, f.T.row_eta] at hq
      rw [getA, Option.getD_some, x.row_eta]
      dsimp only [Option.isSome]
      simp +contextual -implicitDefEqProofs only [K76, SS, reduceAdd,reduceSub,reduceLeDiff,reduceEqDiff,reduceCtorEq]
      refine WC.call hq rfl rfl ?_
      rintro _ _ ⟨hS2, rfl⟩
      revert hX
      generalize valueF p (N p) f.T x = r
      obtain ⟨y, ok, e⟩ := r
      intro hX
      rw [ansR, y.row_eta]
      dsimp only
      simp +contextual -implicitDefEqProofs only [K76, SS, reduceAdd,reduceSub,reduceLeDiff,reduceEqDiff,reduceCtorEq]
      rcases bool_tf (eqI e 0 && !ok && f.has) with hd | hd
      · rw [show dflF N f (y, ok, e) = valueF false (N false) f.T f.v from if_pos hd] at hX
        have hq := hV f hf false (fun st => Sch st ∧ st[o]? = some (outObj ks ls)) (fun st h => h.1) _ hS2 f.v (hFv f hf)
        rw [f.v.row_eta, f.T.row_eta] at hq
        simp +contextual -implicitDefEqProofs only [K76, SS, reduceAdd,reduceSub,reduceLeDiff,reduceEqDiff,reduceCtorEq, hd]
        refine WC.call hq rfl rfl ?_
        rintro _ _ ⟨hS2, rfl⟩
        revert hX
        generalize valueF false (N false) f.T f.v = r
        obtain ⟨y2, ok2, e2⟩ := r
        intro hX
        dsimp only at hX
        rw [ansR, Val.row_eta y2]
        dsimp only
        simp +contextual -implicitDefEqProofs only [K76, SS, reduceAdd,reduceSub,reduceLeDiff,reduceEqDiff,reduceCtorEq]
        rcases bool_tf (eqI e2 0) with he | he
        rotate_left
        · rw [if_neg (by rw [he]; decide)] at hX
          simp +contextual -implicitDefEqProofs only [K76, SS, reduceAdd,reduceSub,reduceLeDiff,reduceEqDiff,reduceCtorEq, he]
          refine WC.leaveR ?_
          simp +contextual -implicitDefEqProofs only [K76, SS, reduceAdd,reduceSub,reduceLeDiff,reduceEqDiff,reduceCtorEq]
          refine WC.ret ⟨_, _, rfl, hS2.1, f.name, ?_⟩
          rw [hX, cErr, Val.none_row]
          rfl
        rw [if_pos he] at hX
        cases ok2 with
        | true =>
          rw [if_pos rfl] at hX
          simp +contextual -implicitDefEqProofs only [K76, SS, reduceAdd,reduceSub,reduceLeDiff,reduceEqDiff,reduceCtorEq, he]
          have hpu := put_q hS2.2 f.name y2 (by omega) (by omega)
          rw [Val.row_eta y2] at hpu
          refine WC.call hpu rfl rfl ?_
          rintro _ _ rfl
          simp +contextual -implicitDefEqProofs only [K76, SS, reduceAdd,reduceSub,reduceLeDiff,reduceEqDiff,reduceCtorEq, hinc]
          exact WC.next (m' := F.length - (i + 1)) (by omega) ⟨i + 1, ks ++ [f.name], ls ++ [y2], _, _, _, _, _, _, _, ⟨Sch.set hS2.1 ho _, set_get (List.getElem?_eq_some_iff.1 hS2.2).1 _⟩, hil, rfl, by simp; omega, by simp; omega, hX, rfl⟩
        | false =>
          rw [if_neg (by decide)] at hX
          rcases bool_tf f.T.bang with hb | hb
          · rw [if_pos hb] at hX
            simp +contextual -implicitDefEqProofs only [K76, SS, reduceAdd,reduceSub,reduceLeDiff,reduceEqDiff,reduceCtorEq, he, hb]
            refine WC.leaveR ?_
            simp +contextual -implicitDefEqProofs only [K76, SS, reduceAdd,reduceSub,reduceLeDiff,reduceEqDiff,reduceCtorEq]
            refine WC.ret ⟨_, _, rfl, hS2.1, f.name, ?_⟩
            rw [hX, cErr, Val.none_row]
            rfl
          · rw [if_neg (by rw [hb]; decide)] at hX
            simp +contextual -implicitDefEqProofs only [K76, SS, reduceAdd,reduceSub,reduceLeDiff,reduceEqDiff,reduceCtorEq, he, hb, hinc]
            exact WC.next (m' := F.length - (i + 1)) (by omega) ⟨i + 1, ks, ls, _, _, _, _, _, _, _, hS2, hil, rfl, by omega, by omega, hX, rfl⟩
      · rw [show dflF N f (y, ok, e) = (y, ok, e) from if_neg (by dsimp only; rw [hd]; decide)] at hX
        dsimp only at hX
        simp +contextual -implicitDefEqProofs only [K76, SS, reduceAdd,reduceSub,reduceLeDiff,reduceEqDiff,reduceCtorEq, hd]
        rcases bool_tf (eqI e 0) with he | he
        rotate_left
        · rw [if_neg (by rw [he]; decide)] at hX
          simp +contextual -implicitDefEqProofs only [K76, SS, reduceAdd,reduceSub,reduceLeDiff,reduceEqDiff,reduceCtorEq, he]
          refine WC.leaveR ?_
          simp +contextual -implicitDefEqProofs only [K76, SS, reduceAdd,reduceSub,reduceLeDiff,reduceEqDiff,reduceCtorEq]
          refine WC.ret ⟨_, _, rfl, hS2.1, f.name, ?_⟩
          rw [hX, cErr, Val.none_row]
          rfl
        rw [if_pos he] at hX
        cases ok with
        | true =>
          rw [if_pos rfl] at hX
          simp +contextual -implicitDefEqProofs only [K76, SS, reduceAdd,reduceSub,reduceLeDiff,reduceEqDiff,reduceCtorEq, he]
          have hpu := put_q hS2.2 f.name y (by omega) (by omega)
          rw [Val.row_eta y] at hpu
          refine WC.call hpu rfl rfl ?_
          rintro _ _ rfl
          simp +contextual -implicitDefEqProofs only [K76, SS, reduceAdd,reduceSub,reduceLeDiff,reduceEqDiff,reduceCtorEq, hinc]
          exact WC.next (m' := F.length - (i + 1)) (by omega) ⟨i + 1, ks ++ [f.name], ls ++ [y], _, _, _, _, _, _, _, ⟨Sch.set hS2.1 ho _, set_get (List.getElem?_eq_some_iff.1 hS2.2).1 _⟩, hil, rfl, by simp; omega, by simp; omega, hX, rfl⟩
        | false =>
          rw [if_neg (by decide)] at hX
          rcases bool_tf f.T.bang with hb | hb
          · rw [if_pos hb] at hX
            simp +contextual -implicitDefEqProofs only [K76, SS, reduceAdd,reduceSub,reduceLeDiff,reduceEqDiff,reduceCtorEq, he, hb]
            refine WC.leaveR ?_
            simp +contextual -implicitDefEqProofs only [K76, SS, reduceAdd,reduceSub,reduceLeDiff,reduceEqDiff,reduceCtorEq]
            refine WC.ret ⟨_, _, rfl, hS2.1, f.name, ?_⟩
            rw [hX, cErr, Val.none_row]
            rfl
          · rw [if_neg (by rw [hb]; decide)] at hX
            simp +contextual -implicitDefEqProofs only [K76, SS, reduceAdd,reduceSub,reduceLeDiff,reduceEqDiff,reduceCtorEq, he, hb, hinc]
            exact WC.next (m' := F.length - (i + 1)) (by omega) ⟨i + 1, ks, ls, _, _, _, _, _, _, _, hS2, hil, rfl, by omega, by omega, hX, rfl⟩
end Go.Cb.CodeA
