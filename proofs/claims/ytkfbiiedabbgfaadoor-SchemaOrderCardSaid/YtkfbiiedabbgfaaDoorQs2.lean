import Derived.Test.YtkfbiiedabbgfaaDoorQs1
import Derived.Test.YtkfbiiedabbgfaaDoorAwA
set_option maxRecDepth 20000
set_option linter.unusedSimpArgs false
set_option linter.unusedVariables false
namespace Go.Cb.CodeA
open Go Go.Cb
attribute [local congr] obind_congr gv_congr2 gv2_congr brT_congr seqK_congr blkK_congr m1_congr gm_congr

/-- lacks an object that field, or has it of another type? -/
def lacks (fs : List FDef) (f : FDef) : Bool := match fldAt fs f.name with
  | none => true
  | some g => !sameT g.ty f.ty
def implS (t u : TDef) : Bool := !(u.fs.any (lacks t.fs))
theorem lacks_s (t : TDef) (ht : t.OK) (f : FDef) (o : Nat) (st : St) (h : st[o]? = some (.cells t.row)) : EvQ tbl 66 [.agg f.row, .ptr o 0] st (fun a st' => Gr st st' ∧ a = .bool (lacks t.fs f)) := by
  have hl := ht.lf
  obtain ⟨tn, txs, tb, vk, vn, vs, vx, vy, et, ev, ef⟩ := f.row_cells
  rw [ef]
  rw [TDef.row] at h
  refine EvQ.body (fn := a66) rfl rfl rfl ?_
  simp (contextual := true) (implicitDefEqProofs := false) only [K66, SS, Nat.reduceAdd, Nat.reduceSub, Nat.reduceLeDiff, Nat.reduceEqDiff, reduceCtorEq, h]
  refine WC.call (list_q t.fs (by omega) _) rfl rfl ?_
  rintro _ _ ⟨rfl, rfl⟩
  simp (contextual := true) (implicitDefEqProofs := false) only [K66, SS, Nat.reduceAdd, Nat.reduceSub, Nat.reduceLeDiff, Nat.reduceEqDiff, reduceCtorEq]
  refine WC.call (index_q (namesF t.fs) (by simp [namesF]; omega) _ _) rfl rfl ?_
  rintro _ _ ⟨rfl, rfl⟩
  rcases idx_fld f.name t.fs with ⟨f1, f2⟩ | ⟨j, g, f1, f2, f3⟩
  · simp (contextual := true) (implicitDefEqProofs := false) only [K66, SS, Nat.reduceAdd, Nat.reduceSub, Nat.reduceLeDiff, Nat.reduceEqDiff, reduceCtorEq, f2, ltI_neg1]
    exact WC.ret ⟨_, _, rfl, Gr.refl _, by simp only [lacks, f1]; rfl⟩
  · have f4 : (t.fs.map FDef.row)[j]? = some g.row := by rw [List.getElem?_map, f3]; rfl
    obtain ⟨un, uxs, ub, wk, wn, ws, wx, wy, gt, gv', gf⟩ := g.row_cells
    rw [gf] at f4
    have hs := same_q g.ty f.ty
    rw [gt, et] at hs
    simp (contextual := true) (implicitDefEqProofs := false) only [K66, SS, Nat.reduceAdd, Nat.reduceSub, Nat.reduceLeDiff, Nat.reduceEqDiff, reduceCtorEq, f2, ltI_nat0, h, f4]
    refine WC.call (hs _) rfl rfl ?_
    rintro _ _ ⟨rfl, rfl⟩
    simp (contextual := true) (implicitDefEqProofs := false) only [K66, SS, Nat.reduceAdd, Nat.reduceSub, Nat.reduceLeDiff, Nat.reduceEqDiff, reduceCtorEq]
    exact WC.ret ⟨_, _, rfl, Gr.refl _, by simp only [lacks, f1]; rfl⟩
theorem impl_s (so : Nat) (t u : TDef) (ht : t.OK) (hu : u.OK) (st : St) : EvQ tbl 52 [.ptr so 0, .agg t.row, .agg u.row] st (fun a st' => Gr st st' ∧ a = .bool (implS t u)) := by
  have hl := hu.lf
  obtain ⟨hg, h3⟩ := one_more st (.cells t.row)
  have hc := containsF_s 66 [.ptr st.length 0] rfl (lacks t.fs) u.fs (by omega) (st ++ [.cells t.row]) (fun f _ st2 hg2 => lacks_s t ht f st.length st2 (hg2 _ _ h3)) (st ++ [.cells t.row]) (Gr.refl _)
  rw [TDef.row] at hc hg
  rw [TDef.row, TDef.row]
  refine EvQ.body (fn := a52) rfl rfl rfl ?_
  simp (contextual := true) (implicitDefEqProofs := false) only [K52, SS, Nat.reduceAdd, Nat.reduceSub, Nat.reduceLeDiff, Nat.reduceEqDiff, reduceCtorEq]
  refine WC.call hc rfl rfl ?_
  rintro _ st' ⟨hg', rfl⟩
  simp (contextual := true) (implicitDefEqProofs := false) only [K52, SS, Nat.reduceAdd, Nat.reduceSub, Nat.reduceLeDiff, Nat.reduceEqDiff, reduceCtorEq]
  exact WC.ret ⟨_, _, rfl, hg.trans hg', rfl⟩

def fieldsGo (l : List TDef) (inn : Bool) : List FDef → Flt
  | [] => (0, [])
  | f :: fs => if !eqI (fieldS l f inn).1 0 then fieldS l f inn else fieldsGo l inn fs
def wantK (k : Int) : Int := if eqI k 1 then 2 else (if eqI k 3 then 1 else 0)
def namesGo (l : List TDef) (t : TDef) : List (List Nat) → Flt
  | [] => (0, [])
  | n :: ns => if eqI t.k 4 then namesGo l t ns
    else (if !(lk l n).isSome then (6, n)
    else (if !eqI ((lk l n).getD TDef.zero).k (wantK t.k) || rootB n then (8, n)
    else (if eqI t.k 1 && !implS t ((lk l n).getD TDef.zero) then (3, n) else namesGo l t ns)))
def checkS (l : List TDef) (t : TDef) : Flt :=
  if !eqI (twiceS (namesF t.fs ++ t.ns)).1 0 && !eqI t.k 1 then twiceS (namesF t.fs ++ t.ns)
  else (if !eqI (twiceS (namesF t.fs)).1 0 then twiceS (namesF t.fs)
  else (if !eqI (twiceS t.ns).1 0 then twiceS t.ns
  else (if !eqI (fieldsGo l (eqI t.k 5) t.fs).1 0 then fieldsGo l (eqI t.k 5) t.fs
  else namesGo l t t.ns)))

def checkQ (l : List TDef) (st : St) (t : TDef) (o : Out) : Prop := ∃ r st', finK [ResK.bx 3 true 2] (some o) = some (r, st') ∧ Gr st st' ∧ r = fltA (checkS l t)
theorem want_r (k : Int) (nn : List Nat) (fs ns : List (List AV)) (v0 v1 v3 v4 v5 v6 v7 v8 v9 v10 v11 v12 v13 v14 v15 v16 v17 v18 : AV) (st : St) : ∃ st', Gr st st' ∧ ∀ (call : CallT) (n : Nat),
    exec call n a31s50 [v0, v1, .box [.int .u8 k, .str nn, .list false fs, .list false ns], v3, v4, v5, v6, v7, v8, v9, v10, v11, v12, v13, v14, v15, v16, v17, v18] st =
    some (.normal, [v0, v1, .box [.int .u8 k, .str nn, .list false fs, .list false ns], v3, v4, v5, v6, v7, v8, .int .u8 (wantK k), v10, v11, v12, v13, v14, v15, v16, v17, v18], st') := by
  refine ⟨st ++ [.map [(.int .u8 1, .int .u8 2), (.int .u8 3, .int .u8 1)]], Gr.app _ _, fun call n => ?_⟩
  have e1 : ∀ x : Obj, (st ++ [x])[st.length]? = some x := fun x => by simp
  have e2 : ∀ x y : Obj, (st ++ [x]).set st.length y = st ++ [y] := fun x y => by simp
  unfold wantK
  rcases bool_tf (eqI k 1) with h1 | h1
  · simp (contextual := true) (implicitDefEqProofs := false) only [K31, SS, Nat.reduceAdd, Nat.reduceSub, Nat.reduceLeDiff, Nat.reduceEqDiff, reduceCtorEq, semMset, semMget, e1, e2, mfind, eqKey, h1, show eqI 3 1 = false from rfl, Option.bind_some, Option.isSome_some]
  · rcases bool_tf (eqI k 3) with h2 | h2
    · simp (contextual := true) (implicitDefEqProofs := false) only [K31, SS, Nat.reduceAdd, Nat.reduceSub, Nat.reduceLeDiff, Nat.reduceEqDiff, reduceCtorEq, semMset, semMget, e1, e2, mfind, eqKey, h1, h2, show eqI 3 1 = false from rfl, Option.bind_some, Option.isSome_some]
    · simp (contextual := true) (implicitDefEqProofs := false) only [K31, SS, Nat.reduceAdd, Nat.reduceSub, Nat.reduceLeDiff, Nat.reduceEqDiff, reduceCtorEq, semMset, semMget, e1, e2, mfind, eqKey, h1, h2, show eqI 3 1 = false from rfl, Option.bind_some, Option.isSome_none]
theorem check_names {l : List TDef} {so : Nat} {t : TDef} (ht : t.OK) {st0 st : St} (h : Sch l so st) (hg : Gr st0 st) (hS : checkS l t = namesGo l t t.ns) {v1 v4 v5 v6 v7 v8 v9 v10 v11 v12 v13 v14 v15 v16 v17 v18 : AV} :
    WC (fun n => exec (callF tbl n) n (a31s50.seq ((a31s52.seq (ACode.blk 2 (a31s54.seq ((ACode.blk 3 (a31s56.seq (a31s58.seq (ACode.blk 4 a31s75)))).seq a31s81)).loop)).seq (a31s88.seq ACode.ret)))
      [.ptr so 0, v1, .box [.int .u8 t.k, .str t.n, .list false (t.fs.map FDef.row), .list false (t.ns.map strRow)], .box [.int .i64 0, .str []], v4, v5, v6, v7, v8, v9, v10, v11, v12, v13, v14, v15, v16, v17, v18] st) (checkQ l st0 t) := by
  have hln := ht.ln
  obtain ⟨st1, hg1, he⟩ := want_r t.k t.n (t.fs.map FDef.row) (t.ns.map strRow) (.ptr so 0) v1 (.box [.int .i64 0, .str []]) v4 v5 v6 v7 v8 v9 v10 v11 v12 v13 v14 v15 v16 v17 v18 st
  simp only [exec_seqK, he, seqK_normal]
  have h1 := h.gr hg1
  simp (contextual := true) (implicitDefEqProofs := false) only [K31, SS, Nat.reduceAdd, Nat.reduceSub, Nat.reduceLeDiff, Nat.reduceEqDiff, reduceCtorEq, List.length_map]
  refine WC.loopR (fun mm fr st' => Gr st1 st' ∧ ∃ (i : Nat) (v10 v11 v12 : AV), i ≤ t.ns.length ∧ mm = t.ns.length - i ∧ namesGo l t t.ns = namesGo l t (t.ns.drop i) ∧
    fr = [.ptr so 0, v1, .box [.int .u8 t.k, .str t.n, .list false (t.fs.map FDef.row), .list false (t.ns.map strRow)], .box [.int .i64 0, .str []], v4, v5, v6, v7, v8, .int .u8 (wantK t.k), v10, v11, v12, v13, v14, v15, .list false (t.ns.map strRow), .int .i64 t.ns.length, .int .i64 i]) (m := t.ns.length) ⟨Gr.refl _, 0, _, _, _, Nat.zero_le _, rfl, rfl, rfl⟩ ?_
  rintro mm fr st' ⟨hg', i, v10, v11, v12, hi, rfl, hgo, rfl⟩
  have hS' := h1.gr hg'
  have hgg := (hg.trans hg1).trans hg'
  simp (contextual := true) (implicitDefEqProofs := false) only [K31, SS, Nat.reduceAdd, Nat.reduceSub, Nat.reduceLeDiff, Nat.reduceEqDiff, reduceCtorEq]
  by_cases hil : i < t.ns.length
  · have e2 : (t.ns.map strRow)[i]? = some (strRow t.ns[i]) := by rw [List.getElem?_map, List.getElem?_eq_getElem hil]; rfl
    rw [List.drop_eq_getElem_cons hil, namesGo] at hgo
    revert hgo e2
    generalize t.ns[i] = x
    intro hgo e2
    have hd := lk_ok hS' x
    have i1 := inc64 (show i + 1 < 2 ^ 63 by omega)
    simp (contextual := true) (implicitDefEqProofs := false) only [K31, SS, Nat.reduceAdd, Nat.reduceSub, Nat.reduceLeDiff, Nat.reduceEqDiff, reduceCtorEq, hil, e2, strRow]
    refine WC.call (type_s hS' x) rfl rfl ?_
    rintro _ st' ⟨rfl, rfl⟩
    revert hgo hd
    unfold typeA
    generalize (lk l x).isSome = q
    generalize (lk l x).getD TDef.zero = d
    intro hgo hd
    have hdr := d.row
    simp (contextual := true) (implicitDefEqProofs := false) only [K31, SS, Nat.reduceAdd, Nat.reduceSub, Nat.reduceLeDiff, Nat.reduceEqDiff, reduceCtorEq, TDef.row]
    refine WC.br (fun hx => ?_) (fun hx => ?_)
    · rw [if_pos hx] at hgo
      simp (contextual := true) (implicitDefEqProofs := false) only [K31, SS, Nat.reduceAdd, Nat.reduceSub, Nat.reduceLeDiff, Nat.reduceEqDiff, reduceCtorEq, i1]
      exact WC.next (m' := t.ns.length - (i + 1)) (by omega) ⟨hg', i + 1, _, _, _, hil, rfl, hgo, rfl⟩
    rw [if_neg (by rw [hx]; decide)] at hgo
    cases q with
    | false =>
      rw [if_pos (show (!false) = true from rfl)] at hgo
      simp (contextual := true) (implicitDefEqProofs := false) only [K31, SS, Nat.reduceAdd, Nat.reduceSub, Nat.reduceLeDiff, Nat.reduceEqDiff, reduceCtorEq]
      refine WC.leaveR ?_
      simp (contextual := true) (implicitDefEqProofs := false) only [K31, SS, Nat.reduceAdd, Nat.reduceSub, Nat.reduceLeDiff, Nat.reduceEqDiff, reduceCtorEq]
      exact WC.ret ⟨_, _, rfl, hgg, by rw [hS, hgo]; rfl⟩
    | true =>
    rw [if_neg (show ¬ (!true) = true by decide)] at hgo
    have bad8 : namesGo l t t.ns = (8, x) → WC (fun n => exec (callF tbl n) n ((ACode.blk 3 (ACode.blk 4 a31s67)).seq a31s81) [.ptr so 0, v1, .box [.int .u8 t.k, .str t.n, .list false (t.fs.map FDef.row), .list false (t.ns.map strRow)], .box [.int .i64 0, .str []], v4, v5, v6, v7, v8, .int .u8 (wantK t.k), .str x, .box [.int .u8 d.k, .str d.n, .list false (d.fs.map FDef.row), .list false (d.ns.map strRow)], .bool true, v13, v14, v15, .list false (t.ns.map strRow), .int .i64 t.ns.length, .int .i64 i] st')
        (LQ (fun mm fr st' => Gr st1 st' ∧ ∃ (i : Nat) (v10 v11 v12 : AV), i ≤ t.ns.length ∧ mm = t.ns.length - i ∧ namesGo l t t.ns = namesGo l t (t.ns.drop i) ∧
    fr = [.ptr so 0, v1, .box [.int .u8 t.k, .str t.n, .list false (t.fs.map FDef.row), .list false (t.ns.map strRow)], .box [.int .i64 0, .str []], v4, v5, v6, v7, v8, .int .u8 (wantK t.k), v10, v11, v12, v13, v14, v15, .list false (t.ns.map strRow), .int .i64 t.ns.length, .int .i64 i]) (t.ns.length - i) (fun n => seqC (blkC 2 some) (exec (callF tbl n) n (a31s88.seq ACode.ret))) (checkQ l st0 t)) := by
      intro hgo
      simp (contextual := true) (implicitDefEqProofs := false) only [K31, SS, Nat.reduceAdd, Nat.reduceSub, Nat.reduceLeDiff, Nat.reduceEqDiff, reduceCtorEq]
      refine WC.leaveR ?_
      simp (contextual := true) (implicitDefEqProofs := false) only [K31, SS, Nat.reduceAdd, Nat.reduceSub, Nat.reduceLeDiff, Nat.reduceEqDiff, reduceCtorEq]
      exact WC.ret ⟨_, _, rfl, hgg, by rw [hS, hgo]; rfl⟩
    have good : (if eqI t.k 1 && !implS t d then (3, x) else namesGo l t (t.ns.drop (i + 1))) = namesGo l t t.ns → WC (fun n => exec (callF tbl n) n ((ACode.blk 3 (ACode.blk 4 a31s72)).seq a31s81) [.ptr so 0, v1, .box [.int .u8 t.k, .str t.n, .list false (t.fs.map FDef.row), .list false (t.ns.map strRow)], .box [.int .i64 0, .str []], v4, v5, v6, v7, v8, .int .u8 (wantK t.k), .str x, .box [.int .u8 d.k, .str d.n, .list false (d.fs.map FDef.row), .list false (d.ns.map strRow)], .bool true, v13, v14, v15, .list false (t.ns.map strRow), .int .i64 t.ns.length, .int .i64 i] st')
        (LQ (fun mm fr st' => Gr st1 st' ∧ ∃ (i : Nat) (v10 v11 v12 : AV), i ≤ t.ns.length ∧ mm = t.ns.length - i ∧ namesGo l t t.ns = namesGo l t (t.ns.drop i) ∧
    fr = [.ptr so 0, v1, .box [.int .u8 t.k, .str t.n, .list false (t.fs.map FDef.row), .list false (t.ns.map strRow)], .box [.int .i64 0, .str []], v4, v5, v6, v7, v8, .int .u8 (wantK t.k), v10, v11, v12, v13, v14, v15, .list false (t.ns.map strRow), .int .i64 t.ns.length, .int .i64 i]) (t.ns.length - i) (fun n => seqC (blkC 2 some) (exec (callF tbl n) n (a31s88.seq ACode.ret))) (checkQ l st0 t)) := by
      intro hgo
      cases hk1 : eqI t.k 1 with
      | true =>
        have im := impl_s so t d ht hd st'
        rw [TDef.row, TDef.row] at im
        simp (contextual := true) (implicitDefEqProofs := false) only [K31, SS, Nat.reduceAdd, Nat.reduceSub, Nat.reduceLeDiff, Nat.reduceEqDiff, reduceCtorEq, hk1]
        refine WC.call im rfl rfl ?_
        rintro _ st3 ⟨hg3, rfl⟩
        simp (contextual := true) (implicitDefEqProofs := false) only [K31, SS, Nat.reduceAdd, Nat.reduceSub, Nat.reduceLeDiff, Nat.reduceEqDiff, reduceCtorEq]
        refine WC.br (fun hy => ?_) (fun hy => ?_)
        · rw [hk1, Bool.true_and, if_pos hy] at hgo
          simp (contextual := true) (implicitDefEqProofs := false) only [K31, SS, Nat.reduceAdd, Nat.reduceSub, Nat.reduceLeDiff, Nat.reduceEqDiff, reduceCtorEq]
          refine WC.leaveR ?_
          simp (contextual := true) (implicitDefEqProofs := false) only [K31, SS, Nat.reduceAdd, Nat.reduceSub, Nat.reduceLeDiff, Nat.reduceEqDiff, reduceCtorEq]
          exact WC.ret ⟨_, _, rfl, hgg.trans hg3, by rw [hS, ← hgo]; rfl⟩
        · rw [hk1, Bool.true_and, if_neg (by rw [hy]; decide)] at hgo
          simp (contextual := true) (implicitDefEqProofs := false) only [K31, SS, Nat.reduceAdd, Nat.reduceSub, Nat.reduceLeDiff, Nat.reduceEqDiff, reduceCtorEq, i1]
          exact WC.next (m' := t.ns.length - (i + 1)) (by omega) ⟨hg'.trans hg3, i + 1, _, _, _, hil, rfl, hgo.symm, rfl⟩
      | false =>
        rw [hk1, Bool.false_and, if_neg (by decide)] at hgo
        simp (contextual := true) (implicitDefEqProofs := false) only [K31, SS, Nat.reduceAdd, Nat.reduceSub, Nat.reduceLeDiff, Nat.reduceEqDiff, reduceCtorEq, hk1, i1]
        exact WC.next (m' := t.ns.length - (i + 1)) (by omega) ⟨hg', i + 1, _, _, _, hil, rfl, hgo.symm, rfl⟩
    simp (contextual := true) (implicitDefEqProofs := false) only [K31, SS, Nat.reduceAdd, Nat.reduceSub, Nat.reduceLeDiff, Nat.reduceEqDiff, reduceCtorEq]
    refine WC.g2 (fun hy => ?_) (fun hy => ?_)
    · simp (contextual := true) (implicitDefEqProofs := false) only [K31, SS, Nat.reduceAdd, Nat.reduceSub, Nat.reduceLeDiff, Nat.reduceEqDiff, reduceCtorEq, hy]
      refine WC.call (root_s x _) rfl rfl ?_
      rintro _ _ ⟨rfl, rfl⟩
      simp (contextual := true) (implicitDefEqProofs := false) only [K31, SS, Nat.reduceAdd, Nat.reduceSub, Nat.reduceLeDiff, Nat.reduceEqDiff, reduceCtorEq, hy]
      refine WC.br (fun hr => ?_) (fun hr => ?_)
      · have := bad8 (by rw [hgo, if_pos (by rw [hr]; simp)])
        simp (contextual := true) (implicitDefEqProofs := false) only [K31, SS, Nat.reduceAdd, Nat.reduceSub, Nat.reduceLeDiff, Nat.reduceEqDiff, reduceCtorEq] at this ⊢
        exact this
      · have := good (by rw [hgo, hr, hy]; rfl)
        simp (contextual := true) (implicitDefEqProofs := false) only [K31, SS, Nat.reduceAdd, Nat.reduceSub, Nat.reduceLeDiff, Nat.reduceEqDiff, reduceCtorEq] at this ⊢
        exact this
    · have hy : (!eqI d.k (wantK t.k)) = true := hy
      have := bad8 (by rw [hgo, if_pos (by rw [hy]; rfl)])
      simp (contextual := true) (implicitDefEqProofs := false) only [K31, SS, Nat.reduceAdd, Nat.reduceSub, Nat.reduceLeDiff, Nat.reduceEqDiff, reduceCtorEq, hy] at this ⊢
      exact this
  · rw [List.drop_of_length_le (by omega), namesGo] at hgo
    simp (contextual := true) (implicitDefEqProofs := false) only [K31, SS, Nat.reduceAdd, Nat.reduceSub, Nat.reduceLeDiff, Nat.reduceEqDiff, reduceCtorEq, hil]
    refine WC.leave ?_
    simp (contextual := true) (implicitDefEqProofs := false) only [K31, SS, Nat.reduceAdd, Nat.reduceSub, Nat.reduceLeDiff, Nat.reduceEqDiff, reduceCtorEq]
    exact WC.ret ⟨_, _, rfl, hgg, by rw [hS, hgo]; rfl⟩
end Go.Cb.CodeA
/- What functions of the abstract machine answer. No conditions but those that each theorem names. -/
set_option maxRecDepth 20000
set_option linter.unusedSimpArgs false
set_option linter.unusedVariables false
namespace Go.Cb.CodeA
open Go Go.Cb
attribute [local congr] obind_congr gv_congr2 gv2_congr brT_congr seqK_congr blkK_congr m1_congr gm_congr

theorem check_fields {l : List TDef} {so : Nat} {t : TDef} (ht : t.OK) {st0 st : St} (h : Sch l so st) (hg : Gr st0 st) (hS : checkS l t = if !eqI (fieldsGo l (eqI t.k 5) t.fs).1 0 then fieldsGo l (eqI t.k 5) t.fs else namesGo l t t.ns) {v1 v4 v5 v6 v7 v8 v9 v10 v11 v12 v13 v14 v15 v16 v17 v18 : AV} :
    WC (fun n => exec (callF tbl n) n ((a31s27.seq (ACode.blk 0 (a31s29.seq ((ACode.blk 1 (a31s31.seq (a31s33.seq a31s38))).seq a31s43)).loop)).seq (a31s50.seq ((a31s52.seq (ACode.blk 2 (a31s54.seq ((ACode.blk 3 (a31s56.seq (a31s58.seq (ACode.blk 4 a31s75)))).seq a31s81)).loop)).seq (a31s88.seq ACode.ret))))
      [.ptr so 0, v1, .box [.int .u8 t.k, .str t.n, .list false (t.fs.map FDef.row), .list false (t.ns.map strRow)], .box [.int .i64 0, .str []], v4, v5, v6, v7, v8, v9, v10, v11, v12, v13, v14, v15, v16, v17, v18] st) (checkQ l st0 t) := by
  have hlf := ht.lf
  simp (contextual := true) (implicitDefEqProofs := false) only [K31, SS, Nat.reduceAdd, Nat.reduceSub, Nat.reduceLeDiff, Nat.reduceEqDiff, reduceCtorEq, List.length_map]
  refine WC.loopR (fun mm fr st' => Gr st st' ∧ ∃ (i : Nat) (v7 v8 : AV), i ≤ t.fs.length ∧ mm = t.fs.length - i ∧ fieldsGo l (eqI t.k 5) t.fs = fieldsGo l (eqI t.k 5) (t.fs.drop i) ∧
    fr = [.ptr so 0, v1, .box [.int .u8 t.k, .str t.n, .list false (t.fs.map FDef.row), .list false (t.ns.map strRow)], .box [.int .i64 0, .str []], v4, v5, v6, v7, v8, v9, v10, v11, v12, .list false (t.fs.map FDef.row), .int .i64 t.fs.length, .int .i64 i, v16, v17, v18]) (m := t.fs.length) ⟨Gr.refl _, 0, _, _, Nat.zero_le _, rfl, rfl, rfl⟩ ?_
  rintro mm fr st' ⟨hg', i, v7, v8, hi, rfl, hgo, rfl⟩
  have hS' := h.gr hg'
  simp (contextual := true) (implicitDefEqProofs := false) only [K31, SS, Nat.reduceAdd, Nat.reduceSub, Nat.reduceLeDiff, Nat.reduceEqDiff, reduceCtorEq]
  by_cases hil : i < t.fs.length
  · have e2 : (t.fs.map FDef.row)[i]? = some (t.fs[i]).row := by rw [List.getElem?_map, List.getElem?_eq_getElem hil]; rfl
    have hok := ht.fs _ (List.getElem_mem hil)
    rw [List.drop_eq_getElem_cons hil, fieldsGo] at hgo
    revert hgo e2 hok
    generalize t.fs[i] = a
    intro hgo e2 hok
    obtain ⟨un, uxs, ub, wk, wn, ws, wx, wy, et, ev, ef⟩ := a.row_cells
    have i1 := field_s (l := l) (so := so) hok (eqI t.k 5) st' hS'
    rw [ef, fltA_cells] at i1
    rw [ef] at e2
    simp (contextual := true) (implicitDefEqProofs := false) only [K31, SS, Nat.reduceAdd, Nat.reduceSub, Nat.reduceLeDiff, Nat.reduceEqDiff, reduceCtorEq, hil, e2]
    refine WC.call i1 rfl rfl ?_
    rintro _ st3 ⟨hg3, rfl⟩
    simp (contextual := true) (implicitDefEqProofs := false) only [K31, SS, Nat.reduceAdd, Nat.reduceSub, Nat.reduceLeDiff, Nat.reduceEqDiff, reduceCtorEq]
    refine WC.br (fun hy => ?_) (fun hy => ?_)
    · rw [if_pos hy] at hgo
      rw [hgo, if_pos hy] at hS
      simp (contextual := true) (implicitDefEqProofs := false) only [K31, SS, Nat.reduceAdd, Nat.reduceSub, Nat.reduceLeDiff, Nat.reduceEqDiff, reduceCtorEq]
      refine WC.leaveR ?_
      simp (contextual := true) (implicitDefEqProofs := false) only [K31, SS, Nat.reduceAdd, Nat.reduceSub, Nat.reduceLeDiff, Nat.reduceEqDiff, reduceCtorEq]
      exact WC.ret ⟨_, _, rfl, (hg.trans hg').trans hg3, by rw [hS]; rfl⟩
    · rw [if_neg (by rw [hy]; decide)] at hgo
      simp (contextual := true) (implicitDefEqProofs := false) only [K31, SS, Nat.reduceAdd, Nat.reduceSub, Nat.reduceLeDiff, Nat.reduceEqDiff, reduceCtorEq, inc64 (show i + 1 < 2 ^ 63 by omega)]
      exact WC.next (m' := t.fs.length - (i + 1)) (by omega) ⟨hg'.trans hg3, i + 1, _, _, hil, rfl, hgo, rfl⟩
  · rw [List.drop_of_length_le (by omega), fieldsGo] at hgo
    rw [hgo] at hS
    have hS2 : checkS l t = namesGo l t t.ns := by rw [hS]; rfl
    simp (contextual := true) (implicitDefEqProofs := false) only [K31, SS, Nat.reduceAdd, Nat.reduceSub, Nat.reduceLeDiff, Nat.reduceEqDiff, reduceCtorEq, hil]
    refine WC.leave ?_
    have := check_names ht hS' (hg.trans hg') hS2 (v1 := v1) (v4 := v4) (v5 := v5) (v6 := v6) (v7 := v7) (v8 := v8) (v9 := v9) (v10 := v10) (v11 := v11) (v12 := v12) (v13 := .list false (t.fs.map FDef.row)) (v14 := .int .i64 t.fs.length) (v15 := .int .i64 i) (v16 := v16) (v17 := v17) (v18 := v18)
    simp only [exec_seqK] at this
    simp only [seqC_x, blkC_x, blkK_some, blkOut_exit, if_true, seqK_normal, exec_seqK]
    exact this
theorem check_s {l : List TDef} {so : Nat} {t : TDef} (ht : t.OK) {st : St} (h : Sch l so st) : EvQ tbl 31 [.ptr so 0, .agg t.row] st (fun a st' => Gr st st' ∧ a = fltA (checkS l t)) := by
  have hlf := ht.lf
  have hln := ht.ln
  rw [TDef.row]
  have hS := checkS.eq_1 l t
  refine EvQ.body (fn := a31) rfl rfl rfl ?_
  show WC _ (checkQ l st t)
  simp (contextual := true) (implicitDefEqProofs := false) only [K31, SS, Nat.reduceAdd, Nat.reduceSub, Nat.reduceLeDiff, Nat.reduceEqDiff, reduceCtorEq]
  refine WC.call (list_q t.fs (by omega) _) rfl rfl ?_
  rintro _ st ⟨rfl, rfl⟩
  have hlen : ((namesF t.fs).map strRow).length = t.fs.length := by simp [namesF]
  simp (contextual := true) (implicitDefEqProofs := false) only [K31, SS, Nat.reduceAdd, Nat.reduceSub, Nat.reduceLeDiff, Nat.reduceEqDiff, reduceCtorEq, rowsStr, hlen, List.length_map, show (t.fs.length + t.ns.length) * 16 ≤ 2 ^ 47 by omega]
  refine WC.call (twice_s (namesF t.fs ++ t.ns) (by simp [namesF]; omega) _) rfl (by rw [List.map_append]; rfl) ?_
  rintro _ st ⟨rfl, rfl⟩
  revert hS
  generalize twiceS (namesF t.fs ++ t.ns) = f0
  intro hS
  have rest : ∀ {v4 : AV}, checkS l t = (if !eqI (twiceS (namesF t.fs)).1 0 then twiceS (namesF t.fs) else (if !eqI (twiceS t.ns).1 0 then twiceS t.ns else (if !eqI (fieldsGo l (eqI t.k 5) t.fs).1 0 then fieldsGo l (eqI t.k 5) t.fs else namesGo l t t.ns))) →
      WC (fun n => exec (callF tbl n) n ((a31s11.seq a31s16).seq ((a31s19.seq a31s24).seq ((a31s27.seq (ACode.blk 0 (a31s29.seq ((ACode.blk 1 (a31s31.seq (a31s33.seq a31s38))).seq a31s43)).loop)).seq (a31s50.seq ((a31s52.seq (ACode.blk 2 (a31s54.seq ((ACode.blk 3 (a31s56.seq (a31s58.seq (ACode.blk 4 a31s75)))).seq a31s81)).loop)).seq (a31s88.seq ACode.ret))))))
      [.ptr so 0, .agg [.int .u8 t.k, .str t.n, .list false (t.fs.map FDef.row), .list false (t.ns.map strRow)], .box [.int .u8 t.k, .str t.n, .list false (t.fs.map FDef.row), .list false (t.ns.map strRow)], .box [.int .i64 0, .str []], v4, .undef, .undef, .undef, .undef, .undef, .undef, .undef, .undef, .undef, .undef, .undef, .undef, .undef, .undef] st) (checkQ l st t) := by
    intro v4 hS
    simp (contextual := true) (implicitDefEqProofs := false) only [K31, SS, Nat.reduceAdd, Nat.reduceSub, Nat.reduceLeDiff, Nat.reduceEqDiff, reduceCtorEq]
    refine WC.call (list_q t.fs (by omega) _) rfl rfl ?_
    rintro _ st ⟨rfl, rfl⟩
    simp (contextual := true) (implicitDefEqProofs := false) only [K31, SS, Nat.reduceAdd, Nat.reduceSub, Nat.reduceLeDiff, Nat.reduceEqDiff, reduceCtorEq]
    refine WC.call (twice_s (namesF t.fs) (by simp [namesF]; omega) _) rfl rfl ?_
    rintro _ st ⟨rfl, rfl⟩
    simp (contextual := true) (implicitDefEqProofs := false) only [K31, SS, Nat.reduceAdd, Nat.reduceSub, Nat.reduceLeDiff, Nat.reduceEqDiff, reduceCtorEq, fltA_cells]
    refine WC.br (fun hx => ?_) (fun hx => ?_)
    · rw [if_pos hx] at hS
      simp (contextual := true) (implicitDefEqProofs := false) only [K31, SS, Nat.reduceAdd, Nat.reduceSub, Nat.reduceLeDiff, Nat.reduceEqDiff, reduceCtorEq]
      exact WC.ret ⟨_, _, rfl, Gr.refl _, by rw [hS]; rfl⟩
    rw [if_neg (by rw [hx]; decide)] at hS
    simp (contextual := true) (implicitDefEqProofs := false) only [K31, SS, Nat.reduceAdd, Nat.reduceSub, Nat.reduceLeDiff, Nat.reduceEqDiff, reduceCtorEq]
    refine WC.call (twice_s t.ns (by omega) _) rfl rfl ?_
    rintro _ st ⟨rfl, rfl⟩
    simp (contextual := true) (implicitDefEqProofs := false) only [K31, SS, Nat.reduceAdd, Nat.reduceSub, Nat.reduceLeDiff, Nat.reduceEqDiff, reduceCtorEq, fltA_cells]
    refine WC.br (fun hx => ?_) (fun hx => ?_)
    · rw [if_pos hx] at hS
      simp (contextual := true) (implicitDefEqProofs := false) only [K31, SS, Nat.reduceAdd, Nat.reduceSub, Nat.reduceLeDiff, Nat.reduceEqDiff, reduceCtorEq]
      exact WC.ret ⟨_, _, rfl, Gr.refl _, by rw [hS]; rfl⟩
    rw [if_neg (by rw [hx]; decide)] at hS
    have := check_fields ht h (Gr.refl _) hS (v1 := .agg [.int .u8 t.k, .str t.n, .list false (t.fs.map FDef.row), .list false (t.ns.map strRow)]) (v4 := v4) (v5 := .box [.int .i64 (twiceS (namesF t.fs)).1, .str (twiceS (namesF t.fs)).2]) (v6 := .box [.int .i64 (twiceS t.ns).1, .str (twiceS t.ns).2]) (v7 := .undef) (v8 := .undef) (v9 := .undef) (v10 := .undef) (v11 := .undef) (v12 := .undef) (v13 := .undef) (v14 := .undef) (v15 := .undef) (v16 := .undef) (v17 := .undef) (v18 := .undef)
    simp (contextual := true) (implicitDefEqProofs := false) only [K31, SS, Nat.reduceAdd, Nat.reduceSub, Nat.reduceLeDiff, Nat.reduceEqDiff, reduceCtorEq] at this ⊢
    exact this
  simp (contextual := true) (implicitDefEqProofs := false) only [K31, SS, Nat.reduceAdd, Nat.reduceSub, Nat.reduceLeDiff, Nat.reduceEqDiff, reduceCtorEq, fltA_cells]
  refine WC.br (fun hx => ?_) (fun hx => ?_)
  · rw [if_pos hx] at hS
    simp (contextual := true) (implicitDefEqProofs := false) only [K31, SS, Nat.reduceAdd, Nat.reduceSub, Nat.reduceLeDiff, Nat.reduceEqDiff, reduceCtorEq]
    exact WC.ret ⟨_, _, rfl, Gr.refl _, by rw [hS]; rfl⟩
  · rw [if_neg (by rw [hx]; decide)] at hS
    have := rest (v4 := .box [.int .i64 f0.1, .str f0.2]) hS
    simp (contextual := true) (implicitDefEqProofs := false) only [K31, SS, Nat.reduceAdd, Nat.reduceSub, Nat.reduceLeDiff, Nat.reduceEqDiff, reduceCtorEq] at this ⊢
    exact this
end Go.Cb.CodeA
set_option maxRecDepth 20000
set_option linter.unusedSimpArgs false
set_option linter.unusedVariables false
namespace Go.Cb.CodeA
open Go Go.Cb
attribute [local congr] obind_congr gv_congr2 gv2_congr brT_congr seqK_congr blkK_congr m1_congr gm_congr

theorem eqN_lit (i j : Nat) (h : i ≠ j) : eqI (i : Int) (j : Int) = false := by rw [eqNN]; simp [h]
def idN : List Nat := [105, 100]
/-- is it the argument that names a thing? -/
def idB (f : FDef) : Bool := eqN f.name idN && !f.has && sameT f.ty (.base idS true)
theorem id_s (f : FDef) (st : St) : EvQ tbl 67 [.agg f.row] st (fun a st' => st' = st ∧ a = .bool (idB f)) := by
  obtain ⟨tn, txs, tb, vk, vn, vs, vx, vy, et, ev, ef⟩ := f.row_cells
  have hs := same_q f.ty (.base idS true) st
  rw [et, TRef.row, idS] at hs
  rw [ef]
  unfold idB idN idS at *
  refine EvQ.body (fn := a67) rfl rfl rfl ?_
  rcases bool_tf (eqN f.name [105, 100] && !f.has) with hx | hx
  · simp (contextual := true) (implicitDefEqProofs := false) only [K67, SS, Nat.reduceAdd, Nat.reduceSub, Nat.reduceLeDiff, Nat.reduceEqDiff, reduceCtorEq, hx]
    refine WC.call hs rfl rfl ?_
    rintro _ _ ⟨rfl, rfl⟩
    simp (contextual := true) (implicitDefEqProofs := false) only [K67, SS, Nat.reduceAdd, Nat.reduceSub, Nat.reduceLeDiff, Nat.reduceEqDiff, reduceCtorEq, hx]
    exact WC.ret ⟨_, _, rfl, rfl, rfl⟩
  · simp (contextual := true) (implicitDefEqProofs := false) only [K67, SS, Nat.reduceAdd, Nat.reduceSub, Nat.reduceLeDiff, Nat.reduceEqDiff, reduceCtorEq, hx]
    exact WC.ret ⟨_, _, rfl, rfl, rfl⟩
def lookB (l : List TDef) (f : FDef) : Bool := match f.args, f.ty with
  | [a], .base n b => idB a && (!b && compB l n)
  | _, _ => false
def allB (l : List TDef) (f : FDef) : Bool := match f.args with
  | [] => compB l f.ty.baseN && sameT f.ty (.wrap (.base f.ty.baseN true) true)
  | _ => false
theorem look_s {l : List TDef} {so : Nat} {st : St} (h : Sch l so st) (f : FDef) : EvQ tbl 53 [.ptr so 0, .agg f.row] st (fun a st' => st' = st ∧ a = .bool (lookB l f)) := by
  cases f with
  | mk n as t has v =>
    obtain ⟨tn, txs, tb, et⟩ := t.row_cells
    obtain ⟨vk, vn, vs, vx, vy, ev⟩ := v.row_cells
    rw [FDef.row_mk et ev]
    simp only [lookB, FDef.args, FDef.ty]
    refine EvQ.body (fn := a53) rfl rfl rfl ?_
    match as with
    | [] =>
      simp (contextual := true) (implicitDefEqProofs := false) only [K53, SS, Nat.reduceAdd, Nat.reduceSub, Nat.reduceLeDiff, Nat.reduceEqDiff, reduceCtorEq, show eqI ((0 : Nat) : Int) 1 = false from rfl]
      exact WC.ret ⟨_, _, rfl, rfl, rfl⟩
    | a :: b :: r =>
      have e1 : eqI ((r.length + 1 + 1 : Nat) : Int) 1 = false := by rw [eqI_eq]; simp; omega
      simp (contextual := true) (implicitDefEqProofs := false) only [K53, SS, Nat.reduceAdd, Nat.reduceSub, Nat.reduceLeDiff, Nat.reduceEqDiff, reduceCtorEq, List.length_map, e1]
      exact WC.ret ⟨_, _, rfl, rfl, rfl⟩
    | [a] =>
      have ha := id_s a
      obtain ⟨un, uxs, ub, wk, wn, ws, wx, wy, gt, gv', gf⟩ := a.row_cells
      rw [gf] at ha
      simp (contextual := true) (implicitDefEqProofs := false) only [K53, SS, Nat.reduceAdd, Nat.reduceSub, Nat.reduceLeDiff, Nat.reduceEqDiff, reduceCtorEq, show eqI ((1 : Nat) : Int) 1 = true from rfl, gf]
      refine WC.call (ha _) rfl rfl ?_
      rintro _ _ ⟨rfl, rfl⟩
      cases hia : idB a with
      | false =>
        simp (contextual := true) (implicitDefEqProofs := false) only [K53, SS, Nat.reduceAdd, Nat.reduceSub, Nat.reduceLeDiff, Nat.reduceEqDiff, reduceCtorEq]
        exact WC.ret ⟨_, _, rfl, rfl, by cases t <;> simp only [hia, Bool.false_and] <;> rfl⟩
      | true =>
      cases t with
      | wrap u c =>
        simp only [TRef.row, List.cons.injEq, AV.str.injEq, AV.list.injEq, AV.bool.injEq, true_and, and_true] at et
        obtain ⟨rfl, rfl, rfl⟩ := et
        simp (contextual := true) (implicitDefEqProofs := false) only [K53, SS, Nat.reduceAdd, Nat.reduceSub, Nat.reduceLeDiff, Nat.reduceEqDiff, reduceCtorEq, show eqI ((1 : Nat) : Int) 0 = false from rfl]
        exact WC.ret ⟨_, _, rfl, rfl, rfl⟩
      | base m c =>
        simp only [TRef.row, List.cons.injEq, AV.str.injEq, AV.list.injEq, AV.bool.injEq, true_and, and_true] at et
        obtain ⟨rfl, rfl, rfl⟩ := et
        cases c with
        | true =>
          simp (contextual := true) (implicitDefEqProofs := false) only [K53, SS, Nat.reduceAdd, Nat.reduceSub, Nat.reduceLeDiff, Nat.reduceEqDiff, reduceCtorEq, show eqI ((0 : Nat) : Int) 0 = true from rfl]
          exact WC.ret ⟨_, _, rfl, rfl, rfl⟩
        | false =>
          simp (contextual := true) (implicitDefEqProofs := false) only [K53, SS, Nat.reduceAdd, Nat.reduceSub, Nat.reduceLeDiff, Nat.reduceEqDiff, reduceCtorEq, show eqI ((0 : Nat) : Int) 0 = true from rfl]
          refine WC.call (comp_s h _) rfl rfl ?_
          rintro _ _ ⟨rfl, rfl⟩
          simp (contextual := true) (implicitDefEqProofs := false) only [K53, SS, Nat.reduceAdd, Nat.reduceSub, Nat.reduceLeDiff, Nat.reduceEqDiff, reduceCtorEq]
          exact WC.ret ⟨_, _, rfl, rfl, by rw [hia]; rfl⟩
theorem all_s {l : List TDef} {so : Nat} {st : St} (h : Sch l so st) (f : FDef) : EvQ tbl 54 [.ptr so 0, .agg f.row] st (fun a st' => st' = st ∧ a = .bool (allB l f)) := by
  cases f with
  | mk n as t has v =>
    obtain ⟨tn, txs, tb, et⟩ := t.row_cells
    obtain ⟨vk, vn, vs, vx, vy, ev⟩ := v.row_cells
    rw [FDef.row_mk et ev]
    simp only [allB, FDef.args, FDef.ty]
    refine EvQ.body (fn := a54) rfl rfl rfl ?_
    match as with
    | a :: r =>
      have e1 : eqI ((r.length + 1 : Nat) : Int) 0 = false := by rw [eqI_eq]; simp; omega
      simp (contextual := true) (implicitDefEqProofs := false) only [K54, SS, Nat.reduceAdd, Nat.reduceSub, Nat.reduceLeDiff, Nat.reduceEqDiff, reduceCtorEq, List.length_map, e1]
      exact WC.ret ⟨_, _, rfl, rfl, rfl⟩
    | [] =>
      have hb := base_q t
      have hs := same_q t (.wrap (.base t.baseN true) true)
      rw [et] at hb hs
      simp only [TRef.row] at hs
      simp (contextual := true) (implicitDefEqProofs := false) only [K54, SS, Nat.reduceAdd, Nat.reduceSub, Nat.reduceLeDiff, Nat.reduceEqDiff, reduceCtorEq, show eqI ((0 : Nat) : Int) 0 = true from rfl]
      refine WC.call (hb _) rfl rfl ?_
      rintro _ _ ⟨rfl, rfl⟩
      simp (contextual := true) (implicitDefEqProofs := false) only [K54, SS, Nat.reduceAdd, Nat.reduceSub, Nat.reduceLeDiff, Nat.reduceEqDiff, reduceCtorEq]
      refine WC.call (comp_s h _) rfl rfl ?_
      rintro _ _ ⟨rfl, rfl⟩
      cases hc : compB l t.baseN with
      | false =>
        simp (contextual := true) (implicitDefEqProofs := false) only [K54, SS, Nat.reduceAdd, Nat.reduceSub, Nat.reduceLeDiff, Nat.reduceEqDiff, reduceCtorEq]
        exact WC.ret ⟨_, _, rfl, rfl, rfl⟩
      | true =>
        simp (contextual := true) (implicitDefEqProofs := false) only [K54, SS, Nat.reduceAdd, Nat.reduceSub, Nat.reduceLeDiff, Nat.reduceEqDiff, reduceCtorEq]
        refine WC.call (hb _) rfl rfl ?_
        rintro _ _ ⟨rfl, rfl⟩
        simp (contextual := true) (implicitDefEqProofs := false) only [K54, SS, Nat.reduceAdd, Nat.reduceSub, Nat.reduceLeDiff, Nat.reduceEqDiff, reduceCtorEq]
        refine WC.call (hs _) rfl rfl ?_
        rintro _ _ ⟨rfl, rfl⟩
        simp (contextual := true) (implicitDefEqProofs := false) only [K54, SS, Nat.reduceAdd, Nat.reduceSub, Nat.reduceLeDiff, Nat.reduceEqDiff, reduceCtorEq]
        exact WC.ret ⟨_, _, rfl, rfl, rfl⟩
theorem cut0_s (s p : List Nat) (st : St) : EvQ tbl 79 [.str s, .str p] st (fun a st' => st' = st ∧ a = .tuple [.str (if beginsN s p then s.drop p.length else s), .bool (beginsN s p)]) := by
  refine EvQ.body (fn := a79) rfl rfl rfl ?_
  simp (contextual := true) (implicitDefEqProofs := false) only [K79, SS, Nat.reduceAdd, Nat.reduceSub, Nat.reduceLeDiff, Nat.reduceEqDiff, reduceCtorEq]
  refine WC.call (hasPrefix0_q s p _) rfl rfl ?_
  rintro _ _ ⟨rfl, rfl⟩
  cases hb : beginsN s p with
  | false =>
    simp (contextual := true) (implicitDefEqProofs := false) only [K79, SS, Nat.reduceAdd, Nat.reduceSub, Nat.reduceLeDiff, Nat.reduceEqDiff, reduceCtorEq]
    exact WC.ret ⟨_, _, rfl, rfl, rfl⟩
  | true =>
    have hl : p.length ≤ s.length := by
      simp [beginsN] at hb
      exact hb.1
    simp (contextual := true) (implicitDefEqProofs := false) only [K79, SS, Nat.reduceAdd, Nat.reduceSub, Nat.reduceLeDiff, Nat.reduceEqDiff, reduceCtorEq, hl, List.take_length]
    exact WC.ret ⟨_, _, rfl, rfl, rfl⟩
theorem cut_s (s p : List Nat) (st : St) : EvQ tbl 76 [.str s, .str p] st (fun a st' => st' = st ∧ a = .tuple [.str (if beginsN s p then s.drop p.length else s), .bool (beginsN s p)]) := by
  refine EvQ.body (fn := a76) rfl rfl rfl ?_
  simp (contextual := true) (implicitDefEqProofs := false) only [K76, SS, Nat.reduceAdd, Nat.reduceSub, Nat.reduceLeDiff, Nat.reduceEqDiff, reduceCtorEq]
  refine WC.call (cut0_s s p _) rfl rfl ?_
  rintro _ _ ⟨rfl, rfl⟩
  simp (contextual := true) (implicitDefEqProofs := false) only [K76, SS, Nat.reduceAdd, Nat.reduceSub, Nat.reduceLeDiff, Nat.reduceEqDiff, reduceCtorEq]
  exact WC.ret ⟨_, _, rfl, rfl, rfl⟩
def createN : List Nat := [99, 114, 101, 97, 116, 101]
def updateN : List Nat := [117, 112, 100, 97, 116, 101]
def deleteN : List Nat := [100, 101, 108, 101, 116, 101]
def verbS (s : List Nat) : List Nat × List Nat := if beginsN s createN then (createN, s.drop 6) else (if beginsN s updateN then (updateN, s.drop 6) else (if beginsN s deleteN then (deleteN, s.drop 6) else ([], [])))
theorem verb_s (s : List Nat) (st : St) : EvQ tbl 68 [.str s] st (fun a st' => st' = st ∧ a = .tuple [.str (verbS s).1, .str (verbS s).2]) := by
  unfold verbS
  refine EvQ.body (fn := a68) rfl rfl rfl ?_
  simp (contextual := true) (implicitDefEqProofs := false) only [K68, SS, Nat.reduceAdd, Nat.reduceSub, Nat.reduceLeDiff, Nat.reduceEqDiff, reduceCtorEq]
  refine WC.loopR (fun mm fr st' => st' = st ∧ ((mm = 3 ∧ ∃ v3 v4 v5, fr = [.str s, .str [], .str [], v3, v4, v5, .list true [[.str createN], [.str updateN], [.str deleteN]], .int .i64 3, .int .i64 0]) ∨
    (mm = 2 ∧ beginsN s createN = false ∧ ∃ v3 v4 v5, fr = [.str s, .str [], .str [], v3, v4, v5, .list true [[.str createN], [.str updateN], [.str deleteN]], .int .i64 3, .int .i64 1]) ∨
    (mm = 1 ∧ beginsN s createN = false ∧ beginsN s updateN = false ∧ ∃ v3 v4 v5, fr = [.str s, .str [], .str [], v3, v4, v5, .list true [[.str createN], [.str updateN], [.str deleteN]], .int .i64 3, .int .i64 2]) ∨
    (mm = 0 ∧ beginsN s createN = false ∧ beginsN s updateN = false ∧ beginsN s deleteN = false ∧ ∃ v3 v4 v5, fr = [.str s, .str [], .str [], v3, v4, v5, .list true [[.str createN], [.str updateN], [.str deleteN]], .int .i64 3, .int .i64 3]))) (m := 3) ⟨rfl, Or.inl ⟨rfl, _, _, _, rfl⟩⟩ ?_
  rintro mm fr st' ⟨rfl, ⟨rfl, v3, v4, v5, rfl⟩ | ⟨rfl, h1, v3, v4, v5, rfl⟩ | ⟨rfl, h1, h2, v3, v4, v5, rfl⟩ | ⟨rfl, h1, h2, h3, v3, v4, v5, rfl⟩⟩
  · simp (contextual := true) (implicitDefEqProofs := false) only [K68, SS, Nat.reduceAdd, Nat.reduceSub, Nat.reduceLeDiff, Nat.reduceEqDiff, reduceCtorEq, show ltI 0 3 = true from rfl]
    refine WC.call (cut_s s createN _) rfl rfl ?_
    rintro _ _ ⟨rfl, rfl⟩
    cases hb : beginsN s createN with
    | true =>
      simp (contextual := true) (implicitDefEqProofs := false) only [K68, SS, Nat.reduceAdd, Nat.reduceSub, Nat.reduceLeDiff, Nat.reduceEqDiff, reduceCtorEq, hb]
      refine WC.leaveR ?_
      simp (contextual := true) (implicitDefEqProofs := false) only [K68, SS, Nat.reduceAdd, Nat.reduceSub, Nat.reduceLeDiff, Nat.reduceEqDiff, reduceCtorEq]
      exact WC.ret ⟨_, _, rfl, rfl, rfl⟩
    | false =>
      simp (contextual := true) (implicitDefEqProofs := false) only [K68, SS, Nat.reduceAdd, Nat.reduceSub, Nat.reduceLeDiff, Nat.reduceEqDiff, reduceCtorEq, hb, show wrapA .i64 (addI 0 1) = 1 from rfl]
      exact WC.next (m' := 2) (by decide) ⟨rfl, Or.inr (Or.inl ⟨rfl, _, _, _, rfl⟩)⟩
  · simp (contextual := true) (implicitDefEqProofs := false) only [K68, SS, Nat.reduceAdd, Nat.reduceSub, Nat.reduceLeDiff, Nat.reduceEqDiff, reduceCtorEq, show ltI 1 3 = true from rfl]
    refine WC.call (cut_s s updateN _) rfl rfl ?_
    rintro _ _ ⟨rfl, rfl⟩
    cases hb : beginsN s updateN with
    | true =>
      simp (contextual := true) (implicitDefEqProofs := false) only [K68, SS, Nat.reduceAdd, Nat.reduceSub, Nat.reduceLeDiff, Nat.reduceEqDiff, reduceCtorEq, hb, h1]
      refine WC.leaveR ?_
      simp (contextual := true) (implicitDefEqProofs := false) only [K68, SS, Nat.reduceAdd, Nat.reduceSub, Nat.reduceLeDiff, Nat.reduceEqDiff, reduceCtorEq]
      exact WC.ret ⟨_, _, rfl, rfl, rfl⟩
    | false =>
      simp (contextual := true) (implicitDefEqProofs := false) only [K68, SS, Nat.reduceAdd, Nat.reduceSub, Nat.reduceLeDiff, Nat.reduceEqDiff, reduceCtorEq, hb, show wrapA .i64 (addI 1 1) = 2 from rfl]
      exact WC.next (m' := 1) (by decide) ⟨rfl, Or.inr (Or.inr (Or.inl ⟨rfl, h1, _, _, _, rfl⟩))⟩
  · simp (contextual := true) (implicitDefEqProofs := false) only [K68, SS, Nat.reduceAdd, Nat.reduceSub, Nat.reduceLeDiff, Nat.reduceEqDiff, reduceCtorEq, show ltI 2 3 = true from rfl]
    refine WC.call (cut_s s deleteN _) rfl rfl ?_
    rintro _ _ ⟨rfl, rfl⟩
    cases hb : beginsN s deleteN with
    | true =>
      simp (contextual := true) (implicitDefEqProofs := false) only [K68, SS, Nat.reduceAdd, Nat.reduceSub, Nat.reduceLeDiff, Nat.reduceEqDiff, reduceCtorEq, hb, h1, h2]
      refine WC.leaveR ?_
      simp (contextual := true) (implicitDefEqProofs := false) only [K68, SS, Nat.reduceAdd, Nat.reduceSub, Nat.reduceLeDiff, Nat.reduceEqDiff, reduceCtorEq]
      exact WC.ret ⟨_, _, rfl, rfl, rfl⟩
    | false =>
      simp (contextual := true) (implicitDefEqProofs := false) only [K68, SS, Nat.reduceAdd, Nat.reduceSub, Nat.reduceLeDiff, Nat.reduceEqDiff, reduceCtorEq, hb, show wrapA .i64 (addI 2 1) = 3 from rfl]
      exact WC.next (m' := 0) (by decide) ⟨rfl, Or.inr (Or.inr (Or.inr ⟨rfl, h1, h2, _, _, _, rfl⟩))⟩
  · simp (contextual := true) (implicitDefEqProofs := false) only [K68, SS, Nat.reduceAdd, Nat.reduceSub, Nat.reduceLeDiff, Nat.reduceEqDiff, reduceCtorEq, show ltI 3 3 = false from rfl, h1, h2, h3]
    refine WC.leave ?_
    simp (contextual := true) (implicitDefEqProofs := false) only [K68, SS, Nat.reduceAdd, Nat.reduceSub, Nat.reduceLeDiff, Nat.reduceEqDiff, reduceCtorEq]
    exact WC.ret ⟨_, _, rfl, rfl, rfl⟩
end Go.Cb.CodeA
set_option maxRecDepth 20000
set_option linter.unusedSimpArgs false
set_option linter.unusedVariables false
namespace Go.Cb.CodeA
open Go Go.Cb
attribute [local congr] obind_congr gv_congr2 gv2_congr brT_congr seqK_congr blkK_congr m1_congr gm_congr

/-- may a field be told by an input's field? -/
def matchB (l : List TDef) : TRef → TRef → Bool
  | .wrap t _, .wrap u _ => matchB l t u
  | .base n _, .base m _ => eqN n m || (compB l n && eqN m idS)
  | _, _ => false
theorem match_s {l : List TDef} {so : Nat} : ∀ (t u : TRef) (st : St), Sch l so st → EvQ tbl 70 [.ptr so 0, .agg t.row, .agg u.row] st (fun a st' => st' = st ∧ a = .bool (matchB l t u)) := by
  intro t
  induction t with
  | base n b =>
    intro u st h
    cases u with
    | wrap u c =>
      refine EvQ.body (fn := a70) rfl rfl rfl ?_
      simp only [TRef.row]
      simp (contextual := true) (implicitDefEqProofs := false) only [K70, SS, Nat.reduceAdd, Nat.reduceSub, Nat.reduceLeDiff, Nat.reduceEqDiff, reduceCtorEq]
      exact WC.ret ⟨_, _, rfl, rfl, rfl⟩
    | base m c =>
      simp only [matchB]
      refine EvQ.body (fn := a70) rfl rfl rfl ?_
      simp only [TRef.row]
      cases he : eqN n m with
      | true =>
        simp (contextual := true) (implicitDefEqProofs := false) only [K70, SS, Nat.reduceAdd, Nat.reduceSub, Nat.reduceLeDiff, Nat.reduceEqDiff, reduceCtorEq, he, show ltI 0 ((0 : Nat) : Int) = false from rfl]
        exact WC.ret ⟨_, _, rfl, rfl, rfl⟩
      | false =>
        simp (contextual := true) (implicitDefEqProofs := false) only [K70, SS, Nat.reduceAdd, Nat.reduceSub, Nat.reduceLeDiff, Nat.reduceEqDiff, reduceCtorEq, he, show ltI 0 ((0 : Nat) : Int) = false from rfl]
        refine WC.call (comp_s h _) rfl rfl ?_
        rintro _ _ ⟨rfl, rfl⟩
        cases hc : compB l n with
        | true =>
          simp (contextual := true) (implicitDefEqProofs := false) only [K70, SS, Nat.reduceAdd, Nat.reduceSub, Nat.reduceLeDiff, Nat.reduceEqDiff, reduceCtorEq, he]
          exact WC.ret ⟨_, _, rfl, rfl, rfl⟩
        | false =>
          simp (contextual := true) (implicitDefEqProofs := false) only [K70, SS, Nat.reduceAdd, Nat.reduceSub, Nat.reduceLeDiff, Nat.reduceEqDiff, reduceCtorEq, he]
          exact WC.ret ⟨_, _, rfl, rfl, rfl⟩
  | wrap t b ih =>
    intro u st h
    cases u with
    | base m c =>
      refine EvQ.body (fn := a70) rfl rfl rfl ?_
      simp only [TRef.row]
      simp (contextual := true) (implicitDefEqProofs := false) only [K70, SS, Nat.reduceAdd, Nat.reduceSub, Nat.reduceLeDiff, Nat.reduceEqDiff, reduceCtorEq]
      exact WC.ret ⟨_, _, rfl, rfl, rfl⟩
    | wrap u c =>
      have i1 := ih u st h
      have et := t.row_eq
      have eu := u.row_eq
      rw [et, eu] at i1
      refine EvQ.body (fn := a70) rfl rfl rfl ?_
      simp only [TRef.row, et, eu]
      simp (contextual := true) (implicitDefEqProofs := false) only [K70, SS, Nat.reduceAdd, Nat.reduceSub, Nat.reduceLeDiff, Nat.reduceEqDiff, reduceCtorEq, show ltI 0 ((1 : Nat) : Int) = true from rfl]
      refine WC.call i1 rfl rfl ?_
      rintro _ _ ⟨rfl, rfl⟩
      simp (contextual := true) (implicitDefEqProofs := false) only [K70, SS, Nat.reduceAdd, Nat.reduceSub, Nat.reduceLeDiff, Nat.reduceEqDiff, reduceCtorEq]
      exact WC.ret ⟨_, _, rfl, rfl, rfl⟩
/-- is there no field of a type that an input's field tells? -/
def untold (l : List TDef) (fs : List FDef) (x : FDef) : Bool := match fldAt fs x.name with
  | none => true
  | some g => !matchB l g.ty x.ty
theorem untold_s {l : List TDef} {so : Nat} (t : TDef) (ht : t.OK) (f : FDef) (o7 o2 : Nat) (st : St) (h : Sch l so st) (h7 : st[o7]? = some (.cells t.row)) (h2 : st[o2]? = some (.cells [.ptr so 0])) : EvQ tbl 69 [.agg f.row, .ptr o7 0, .ptr o2 0] st (fun a st' => Gr st st' ∧ a = .bool (untold l t.fs f)) := by
  have hl := ht.lf
  obtain ⟨tn, txs, tb, vk, vn, vs, vx, vy, et, ev, ef⟩ := f.row_cells
  rw [ef]
  rw [TDef.row] at h7
  refine EvQ.body (fn := a69) rfl rfl rfl ?_
  simp (contextual := true) (implicitDefEqProofs := false) only [K69, SS, Nat.reduceAdd, Nat.reduceSub, Nat.reduceLeDiff, Nat.reduceEqDiff, reduceCtorEq, h7]
  refine WC.call (list_q t.fs (by omega) _) rfl rfl ?_
  rintro _ _ ⟨rfl, rfl⟩
  simp (contextual := true) (implicitDefEqProofs := false) only [K69, SS, Nat.reduceAdd, Nat.reduceSub, Nat.reduceLeDiff, Nat.reduceEqDiff, reduceCtorEq]
  refine WC.call (index_q (namesF t.fs) (by simp [namesF]; omega) _ _) rfl rfl ?_
  rintro _ _ ⟨rfl, rfl⟩
  rcases idx_fld f.name t.fs with ⟨f1, f2⟩ | ⟨j, g, f1, f2, f3⟩
  · simp (contextual := true) (implicitDefEqProofs := false) only [K69, SS, Nat.reduceAdd, Nat.reduceSub, Nat.reduceLeDiff, Nat.reduceEqDiff, reduceCtorEq, f2, ltI_neg1]
    exact WC.ret ⟨_, _, rfl, Gr.refl _, by simp only [untold, f1]; rfl⟩
  · have f4 : (t.fs.map FDef.row)[j]? = some g.row := by rw [List.getElem?_map, f3]; rfl
    obtain ⟨un, uxs, ub, wk, wn, ws, wx, wy, gt, gv', gf⟩ := g.row_cells
    rw [gf] at f4
    have hs := match_s (l := l) (so := so) g.ty f.ty
    rw [gt, et] at hs
    simp (contextual := true) (implicitDefEqProofs := false) only [K69, SS, Nat.reduceAdd, Nat.reduceSub, Nat.reduceLeDiff, Nat.reduceEqDiff, reduceCtorEq, f2, ltI_nat0, h7, h2, f4]
    refine WC.call (hs _ h) rfl rfl ?_
    rintro _ _ ⟨rfl, rfl⟩
    simp (contextual := true) (implicitDefEqProofs := false) only [K69, SS, Nat.reduceAdd, Nat.reduceSub, Nat.reduceLeDiff, Nat.reduceEqDiff, reduceCtorEq]
    exact WC.ret ⟨_, _, rfl, Gr.refl _, by simp only [untold, f1]; rfl⟩

def inputN : List Nat := [105, 110, 112, 117, 116]
def argsB (l : List TDef) (t : TDef) (as : List FDef) : Bool := match as with
  | [a, b] => idB a && (eqN b.name inputN && (match b.ty with
    | .base m true => (lk l m).isSome && (eqI ((lk l m).getD TDef.zero).k 5 && !(((lk l m).getD TDef.zero).fs.any (untold l t.fs)))
    | _ => false))
  | _ => false
def delB (as : List FDef) : Bool := match as with
  | [a] => idB a
  | _ => false
def changeB (l : List TDef) (f : FDef) : Bool :=
  !(!(lk l (verbS f.name).2).isSome || !eqI ((lk l (verbS f.name).2).getD TDef.zero).k 1 || rootB (verbS f.name).2 || !sameT f.ty (.base (verbS f.name).2 false)) &&
  cond (eqN (verbS f.name).1 deleteN) (delB f.args) (argsB l ((lk l (verbS f.name).2).getD TDef.zero) f.args)

def chQ (st : St) (b : Bool) (o : Out) : Prop := ∃ r st', finK [ResK.v 4] (some o) = some (r, st') ∧ Gr st st' ∧ r = .bool b
theorem change_args {l : List TDef} {so : Nat} {st0 st : St} (h : Sch l so st) (hg : Gr st0 st) (t : TDef) (ht : t.OK) (as : List FDef) {o2 o7 : Nat} (h7 : st[o7]? = some (.cells t.row)) (h2 : st[o2]? = some (.cells [.ptr so 0])) {v1 v5 v6 v8 v9 : AV} {n : List Nat} {c2 : List Nat} {c3 : List (List AV)} {c4 c5 : Bool} {c6 c7 : Int} {c8 : List Nat} {c9 c10 : List (List AV)} :
    WC (fun n' => exec (callF tbl n') n' (a55s20.seq (a55s22.seq (a55s27.seq (a55s29.seq ACode.ret)))) [.ptr so 0, v1, .ptr o2 0, .box [.str n, .list false (as.map FDef.row), .str c2, .list false c3, .bool c4, .bool c5, .int .u8 c6, .int .i64 c7, .str c8, .list false c9, .list false c10], .bool false, v5, v6, .ptr o7 0, v8, v9] st) (chQ st0 (argsB l t as)) := by
  match as with
  | [] =>
    simp (contextual := true) (implicitDefEqProofs := false) only [K55, SS, Nat.reduceAdd, Nat.reduceSub, Nat.reduceLeDiff, Nat.reduceEqDiff, reduceCtorEq, show eqI ((0 : Nat) : Int) 2 = false from rfl]
    exact WC.ret ⟨_, _, rfl, hg, rfl⟩
  | [a] =>
    simp (contextual := true) (implicitDefEqProofs := false) only [K55, SS, Nat.reduceAdd, Nat.reduceSub, Nat.reduceLeDiff, Nat.reduceEqDiff, reduceCtorEq, show eqI ((1 : Nat) : Int) 2 = false from rfl]
    exact WC.ret ⟨_, _, rfl, hg, rfl⟩
  | a :: b :: c :: r =>
    have e1 : eqI ((r.length + 1 + 1 + 1 : Nat) : Int) 2 = false := by rw [eqI_eq]; simp; omega
    simp (contextual := true) (implicitDefEqProofs := false) only [K55, SS, Nat.reduceAdd, Nat.reduceSub, Nat.reduceLeDiff, Nat.reduceEqDiff, reduceCtorEq, List.length_map, e1]
    exact WC.ret ⟨_, _, rfl, hg, rfl⟩
  | [a, b] =>
    have ha := id_s a
    obtain ⟨un, uxs, ub, wk, wn, ws, wx, wy, gt, gv', gf⟩ := a.row_cells
    obtain ⟨pn, pxs, pb, qk, qn, qs, qx, qy, bt, bv', bf⟩ := b.row_cells
    rw [gf] at ha
    simp only [argsB]
    simp (contextual := true) (implicitDefEqProofs := false) only [K55, SS, Nat.reduceAdd, Nat.reduceSub, Nat.reduceLeDiff, Nat.reduceEqDiff, reduceCtorEq, show eqI ((2 : Nat) : Int) 2 = true from rfl, gf, bf]
    refine WC.call (ha _) rfl rfl ?_
    rintro _ st ⟨rfl, rfl⟩
    cases hia : idB a with
    | false =>
      simp (contextual := true) (implicitDefEqProofs := false) only [K55, SS, Nat.reduceAdd, Nat.reduceSub, Nat.reduceLeDiff, Nat.reduceEqDiff, reduceCtorEq]
      exact WC.ret ⟨_, _, rfl, hg, rfl⟩
    | true =>
    cases hin : eqN b.name inputN with
    | false =>
      have hin' : eqN b.name [105, 110, 112, 117, 116] = false := hin
      simp (contextual := true) (implicitDefEqProofs := false) only [K55, SS, Nat.reduceAdd, Nat.reduceSub, Nat.reduceLeDiff, Nat.reduceEqDiff, reduceCtorEq, bf, hin']
      exact WC.ret ⟨_, _, rfl, hg, rfl⟩
    | true =>
    have hin' : eqN b.name [105, 110, 112, 117, 116] = true := hin
    revert bt
    cases b.ty with
    | wrap u c =>
      intro bt
      simp only [TRef.row, List.cons.injEq, AV.str.injEq, AV.list.injEq, AV.bool.injEq, true_and, and_true] at bt
      obtain ⟨rfl, rfl, rfl⟩ := bt
      cases c <;> simp (contextual := true) (implicitDefEqProofs := false) only [K55, SS, Nat.reduceAdd, Nat.reduceSub, Nat.reduceLeDiff, Nat.reduceEqDiff, reduceCtorEq, bf, hin', show ltI 0 ((1 : Nat) : Int) = true from rfl] <;> exact WC.ret ⟨_, _, rfl, hg, rfl⟩
    | base m c =>
      intro bt
      simp only [TRef.row, List.cons.injEq, AV.str.injEq, AV.list.injEq, AV.bool.injEq, true_and, and_true] at bt
      obtain ⟨rfl, rfl, rfl⟩ := bt
      cases c with
      | false =>
        simp (contextual := true) (implicitDefEqProofs := false) only [K55, SS, Nat.reduceAdd, Nat.reduceSub, Nat.reduceLeDiff, Nat.reduceEqDiff, reduceCtorEq, bf, hin', show ltI 0 ((0 : Nat) : Int) = false from rfl]
        exact WC.ret ⟨_, _, rfl, hg, rfl⟩
      | true =>
        have hd := lk_ok h m
        simp (contextual := true) (implicitDefEqProofs := false) only [K55, SS, Nat.reduceAdd, Nat.reduceSub, Nat.reduceLeDiff, Nat.reduceEqDiff, reduceCtorEq, bf, hin', show ltI 0 ((0 : Nat) : Int) = false from rfl, h2]
        refine WC.call (type_s h m) rfl rfl ?_
        rintro _ st ⟨rfl, rfl⟩
        revert hd
        unfold typeA
        generalize (lk l m).isSome = q
        generalize (lk l m).getD TDef.zero = d
        intro hd
        have hdf := hd.lf
        cases q with
        | false =>
          simp (contextual := true) (implicitDefEqProofs := false) only [K55, SS, Nat.reduceAdd, Nat.reduceSub, Nat.reduceLeDiff, Nat.reduceEqDiff, reduceCtorEq, TDef.row]
          exact WC.ret ⟨_, _, rfl, hg, rfl⟩
        | true =>
        cases hk5 : eqI d.k 5 with
        | false =>
          simp (contextual := true) (implicitDefEqProofs := false) only [K55, SS, Nat.reduceAdd, Nat.reduceSub, Nat.reduceLeDiff, Nat.reduceEqDiff, reduceCtorEq, TDef.row, hk5]
          exact WC.ret ⟨_, _, rfl, hg, rfl⟩
        | true =>
          have hc := containsF_s 69 [.ptr o7 0, .ptr o2 0] rfl (untold l t.fs) d.fs (by omega) st (fun f _ st2 hg2 => untold_s t ht f o7 o2 st2 (h.gr hg2) (hg2 _ _ h7) (hg2 _ _ h2)) st (Gr.refl _)
          simp (contextual := true) (implicitDefEqProofs := false) only [K55, SS, Nat.reduceAdd, Nat.reduceSub, Nat.reduceLeDiff, Nat.reduceEqDiff, reduceCtorEq, TDef.row, hk5]
          refine WC.call hc rfl rfl ?_
          rintro _ st3 ⟨hg3, rfl⟩
          simp (contextual := true) (implicitDefEqProofs := false) only [K55, SS, Nat.reduceAdd, Nat.reduceSub, Nat.reduceLeDiff, Nat.reduceEqDiff, reduceCtorEq]
          exact WC.ret ⟨_, _, rfl, hg.trans hg3, rfl⟩
end Go.Cb.CodeA
/- What functions of the abstract machine answer. No conditions but those that each theorem names. -/
set_option maxRecDepth 20000
set_option linter.unusedSimpArgs false
set_option linter.unusedVariables false
namespace Go.Cb.CodeA
open Go Go.Cb
attribute [local congr] obind_congr gv_congr2 gv2_congr brT_congr seqK_congr blkK_congr m1_congr gm_congr

theorem change_s {l : List TDef} {so : Nat} {st : St} (h : Sch l so st) (f : FDef) : EvQ tbl 55 [.ptr so 0, .agg f.row] st (fun a st' => Gr st st' ∧ a = .bool (changeB l f)) := by
  cases f with
  | mk nm as ty has v =>
    obtain ⟨tn, txs, tb, et⟩ := ty.row_cells
    obtain ⟨vk, vn, vs, vx, vy, ev⟩ := v.row_cells
    rw [FDef.row_mk et ev]
    simp only [changeB, FDef.name, FDef.ty, FDef.args]
    have hverb := verb_s nm
    revert hverb
    generalize verbS nm = vv
    obtain ⟨vb, n⟩ := vv
    intro hverb
    dsimp only at hverb ⊢
    obtain ⟨hg, h2⟩ := one_more st (.cells [.ptr so 0])
    refine EvQ.body (fn := a55) rfl rfl rfl ?_
    simp (contextual := true) (implicitDefEqProofs := false) only [K55, SS, Nat.reduceAdd, Nat.reduceSub, Nat.reduceLeDiff, Nat.reduceEqDiff, reduceCtorEq]
    revert hg h2
    generalize st ++ [Obj.cells [AV.ptr so 0]] = st1
    generalize st.length = o2
    intro hg h2
    have h1 := h.gr hg
    refine WC.call (hverb _) rfl rfl ?_
    rintro _ st1 ⟨rfl, rfl⟩
    have hd := lk_ok h1 n
    simp (contextual := true) (implicitDefEqProofs := false) only [K55, SS, Nat.reduceAdd, Nat.reduceSub, Nat.reduceLeDiff, Nat.reduceEqDiff, reduceCtorEq, h2]
    refine WC.call (type_s h1 n) rfl rfl ?_
    rintro _ st1 ⟨rfl, rfl⟩
    revert hd
    unfold typeA
    generalize (lk l n).isSome = q
    generalize (lk l n).getD TDef.zero = t
    intro ht
    have hs := same_q ty (.base n false)
    rw [et, TRef.row] at hs
    obtain ⟨hg2, h7⟩ := one_more st1 (.cells t.row)
    have e1 : ∀ x : Obj, (st1 ++ [x])[st1.length]? = some x := fun x => by simp
    have e2 : ∀ x y : Obj, (st1 ++ [x]).set st1.length y = st1 ++ [y] := fun x y => by simp
    have h2' := hg2 _ _ h2
    have h1' := h1.gr hg2
    have hgg := hg.trans hg2
    rw [TDef.row] at hg2 h7 h2' h1' hgg
    have stop : ∀ {v5 v6 v8 : AV} {o7 : Nat} {st2 : St}, Gr st st2 → WC (fun n' => exec (callF tbl n') n' (a55s9.seq (a55s15.seq (a55s20.seq (a55s22.seq (a55s27.seq (a55s29.seq ACode.ret)))))) [.ptr so 0, .agg [.str nm, .list false (as.map FDef.row), .str tn, .list false txs, .bool tb, .bool has, .int .u8 vk, .int .i64 vn, .str vs, .list false vx, .list false vy], .ptr o2 0, .box [.str nm, .list false (as.map FDef.row), .str tn, .list false txs, .bool tb, .bool has, .int .u8 vk, .int .i64 vn, .str vs, .list false vx, .list false vy], .bool false, v5, v6, .ptr o7 0, v8, .undef] st2) (chQ st false) := by
      intro v5 v6 v8 o7 st2 hgr
      simp (contextual := true) (implicitDefEqProofs := false) only [K55, SS, Nat.reduceAdd, Nat.reduceSub, Nat.reduceLeDiff, Nat.reduceEqDiff, reduceCtorEq]
      exact WC.ret ⟨_, _, rfl, hgr, rfl⟩
    show WC _ (chQ st _)
    cases q with
    | false =>
      simp (contextual := true) (implicitDefEqProofs := false) only [K55, SS, Nat.reduceAdd, Nat.reduceSub, Nat.reduceLeDiff, Nat.reduceEqDiff, reduceCtorEq, TDef.row, e1, e2]
      exact WC.ret ⟨_, _, rfl, hgg, rfl⟩
    | true =>
    cases hk : eqI t.k 1 with
    | false =>
      simp (contextual := true) (implicitDefEqProofs := false) only [K55, SS, Nat.reduceAdd, Nat.reduceSub, Nat.reduceLeDiff, Nat.reduceEqDiff, reduceCtorEq, TDef.row, e1, e2, hk]
      exact WC.ret ⟨_, _, rfl, hgg, rfl⟩
    | true =>
    simp (contextual := true) (implicitDefEqProofs := false) only [K55, SS, Nat.reduceAdd, Nat.reduceSub, Nat.reduceLeDiff, Nat.reduceEqDiff, reduceCtorEq, TDef.row, e1, e2, hk]
    revert h7 h2' h1' hgg
    generalize st1 ++ [Obj.cells [AV.int .u8 t.k, AV.str t.n, AV.list false (t.fs.map FDef.row), AV.list false (t.ns.map strRow)]] = st2
    generalize st1.length = o7
    intro h7 h2' h1' hgg
    refine WC.call (root_s n _) rfl rfl ?_
    rintro _ st2 ⟨rfl, rfl⟩
    cases hr : rootB n with
    | true =>
      simp (contextual := true) (implicitDefEqProofs := false) only [K55, SS, Nat.reduceAdd, Nat.reduceSub, Nat.reduceLeDiff, Nat.reduceEqDiff, reduceCtorEq]
      exact WC.ret ⟨_, _, rfl, hgg, rfl⟩
    | false =>
    simp (contextual := true) (implicitDefEqProofs := false) only [K55, SS, Nat.reduceAdd, Nat.reduceSub, Nat.reduceLeDiff, Nat.reduceEqDiff, reduceCtorEq]
    refine WC.call (hs _) rfl rfl ?_
    rintro _ st2 ⟨rfl, rfl⟩
    cases hsm : sameT ty (.base n false) with
    | false =>
      simp (contextual := true) (implicitDefEqProofs := false) only [K55, SS, Nat.reduceAdd, Nat.reduceSub, Nat.reduceLeDiff, Nat.reduceEqDiff, reduceCtorEq]
      exact WC.ret ⟨_, _, rfl, hgg, rfl⟩
    | true =>
    cases hvd : eqN vb deleteN with
    | true =>
      have hvd' : eqN vb [100, 101, 108, 101, 116, 101] = true := hvd
      match as with
      | [] =>
        simp (contextual := true) (implicitDefEqProofs := false) only [K55, SS, Nat.reduceAdd, Nat.reduceSub, Nat.reduceLeDiff, Nat.reduceEqDiff, reduceCtorEq, hvd', show eqI ((0 : Nat) : Int) 1 = false from rfl]
        exact WC.ret ⟨_, _, rfl, hgg, rfl⟩
      | a :: b :: r =>
        have e1 : eqI ((r.length + 1 + 1 : Nat) : Int) 1 = false := by rw [eqI_eq]; simp; omega
        simp (contextual := true) (implicitDefEqProofs := false) only [K55, SS, Nat.reduceAdd, Nat.reduceSub, Nat.reduceLeDiff, Nat.reduceEqDiff, reduceCtorEq, hvd', List.length_map, e1]
        exact WC.ret ⟨_, _, rfl, hgg, rfl⟩
      | [a] =>
        have ha := id_s a
        obtain ⟨un, uxs, ub, wk, wn, ws, wx, wy, gt, gv', gf⟩ := a.row_cells
        rw [gf] at ha
        simp (contextual := true) (implicitDefEqProofs := false) only [K55, SS, Nat.reduceAdd, Nat.reduceSub, Nat.reduceLeDiff, Nat.reduceEqDiff, reduceCtorEq, hvd', show eqI ((1 : Nat) : Int) 1 = true from rfl, gf]
        refine WC.call (ha _) rfl rfl ?_
        rintro _ st2 ⟨rfl, rfl⟩
        simp (contextual := true) (implicitDefEqProofs := false) only [K55, SS, Nat.reduceAdd, Nat.reduceSub, Nat.reduceLeDiff, Nat.reduceEqDiff, reduceCtorEq]
        exact WC.ret ⟨_, _, rfl, hgg, rfl⟩
    | false =>
      have hvd' : eqN vb [100, 101, 108, 101, 116, 101] = false := hvd
      have := change_args h1' hgg t ht as (by rw [TDef.row]; exact h7) h2' (v1 := .agg [.str nm, .list false (as.map FDef.row), .str tn, .list false txs, .bool tb, .bool has, .int .u8 vk, .int .i64 vn, .str vs, .list false vx, .list false vy]) (v5 := .str vb) (v6 := .str n) (v8 := .bool true) (v9 := .undef) (n := nm) (c2 := tn) (c3 := txs) (c4 := tb) (c5 := has) (c6 := vk) (c7 := vn) (c8 := vs) (c9 := vx) (c10 := vy)
      simp only [exec_seqK] at this
      revert this
      generalize a55s20 = X
      intro this
      simp (contextual := true) (implicitDefEqProofs := false) only [K55, SS, Nat.reduceAdd, Nat.reduceSub, Nat.reduceLeDiff, Nat.reduceEqDiff, reduceCtorEq, hvd']
      exact this
def rolesGo (l : List TDef) (t : TDef) : List FDef → Flt
  | [] => (0, [])
  | f :: fs => if !(if eqN t.n [81, 117, 101, 114, 121] then lookB l f || allB l f else (if eqN t.n [77, 117, 116, 97, 116, 105, 111, 110] then eqI t.k 1 && changeB l f else eqI (f.args.length : Int) 0)) then (3, f.name) else rolesGo l t fs
def rolesS (l : List TDef) (t : TDef) : Flt := if !eqI t.k 1 && !eqI t.k 2 then (0, []) else rolesGo l t t.fs
theorem roles_s {l : List TDef} {so : Nat} {t : TDef} (ht : t.OK) {st : St} (h : Sch l so st) : EvQ tbl 32 [.ptr so 0, .agg t.row] st (fun a st' => Gr st st' ∧ a = fltA (rolesS l t)) := by
  have hlf := ht.lf
  rw [TDef.row]
  have hS := rolesS.eq_1 l t
  refine EvQ.body (fn := a32) rfl rfl rfl ?_
  simp (contextual := true) (implicitDefEqProofs := false) only [K32, SS, Nat.reduceAdd, Nat.reduceSub, Nat.reduceLeDiff, Nat.reduceEqDiff, reduceCtorEq]
  refine WC.br (fun hx => ?_) (fun hx => ?_)
  · rw [if_pos hx] at hS
    simp (contextual := true) (implicitDefEqProofs := false) only [K32, SS, Nat.reduceAdd, Nat.reduceSub, Nat.reduceLeDiff, Nat.reduceEqDiff, reduceCtorEq]
    exact WC.ret ⟨_, _, rfl, Gr.refl _, by rw [hS]; rfl⟩
  rw [if_neg (by rw [hx]; decide)] at hS
  simp (contextual := true) (implicitDefEqProofs := false) only [K32, SS, Nat.reduceAdd, Nat.reduceSub, Nat.reduceLeDiff, Nat.reduceEqDiff, reduceCtorEq, List.length_map]
  refine WC.loopR (fun mm fr st' => Gr st st' ∧ ∃ (i : Nat) (v4 v5 v9 : AV), i ≤ t.fs.length ∧ mm = t.fs.length - i ∧ rolesGo l t t.fs = rolesGo l t (t.fs.drop i) ∧
    fr = [.ptr so 0, .agg [.int .u8 t.k, .str t.n, .list false (t.fs.map FDef.row), .list false (t.ns.map strRow)], .box [.int .u8 t.k, .str t.n, .list false (t.fs.map FDef.row), .list false (t.ns.map strRow)], .box [.int .i64 0, .str []], v4, v5, .list false (t.fs.map FDef.row), .int .i64 t.fs.length, .int .i64 i, v9]) (m := t.fs.length) ⟨Gr.refl _, 0, _, _, _, Nat.zero_le _, rfl, rfl, rfl⟩ ?_
  rintro mm fr st' ⟨hg', i, v4, v5, v9, hi, rfl, hgo, rfl⟩
  have hS' := h.gr hg'
  simp (contextual := true) (implicitDefEqProofs := false) only [K32, SS, Nat.reduceAdd, Nat.reduceSub, Nat.reduceLeDiff, Nat.reduceEqDiff, reduceCtorEq]
  by_cases hil : i < t.fs.length
  · have e2 : (t.fs.map FDef.row)[i]? = some (t.fs[i]).row := by rw [List.getElem?_map, List.getElem?_eq_getElem hil]; rfl
    rw [List.drop_eq_getElem_cons hil, rolesGo] at hgo
    revert hgo e2
    generalize t.fs[i] = a
    intro hgo e2
    obtain ⟨un, uxs, ub, wk, wn, ws, wx, wy, et, ev, ef⟩ := a.row_cells
    have i1 := look_s hS' a
    have i2 := all_s hS' a
    have i3 := change_s hS' a
    rw [ef] at i1 i2 i3
    rw [ef] at e2
    have inc := inc64 (show i + 1 < 2 ^ 63 by omega)
    have close : ∀ (b : Bool) (st3 : St) (v9 : AV), Gr st' st3 → rolesGo l t t.fs = (if !b then (3, a.name) else rolesGo l t (t.fs.drop (i + 1))) →
        WC (fun n => exec (callF tbl n) n ((ACode.blk 1 a32s31).seq a32s37) [.ptr so 0, .agg [.int .u8 t.k, .str t.n, .list false (t.fs.map FDef.row), .list false (t.ns.map strRow)], .box [.int .u8 t.k, .str t.n, .list false (t.fs.map FDef.row), .list false (t.ns.map strRow)], .box [.int .i64 0, .str []], .box [.str a.name, .list false (a.args.map FDef.row), .str un, .list false uxs, .bool ub, .bool a.has, .int .u8 wk, .int .i64 wn, .str ws, .list false wx, .list false wy], .bool b, .list false (t.fs.map FDef.row), .int .i64 t.fs.length, .int .i64 i, v9] st3)
          (LQ (fun mm fr st' => Gr st st' ∧ ∃ (i : Nat) (v4 v5 v9 : AV), i ≤ t.fs.length ∧ mm = t.fs.length - i ∧ rolesGo l t t.fs = rolesGo l t (t.fs.drop i) ∧
    fr = [.ptr so 0, .agg [.int .u8 t.k, .str t.n, .list false (t.fs.map FDef.row), .list false (t.ns.map strRow)], .box [.int .u8 t.k, .str t.n, .list false (t.fs.map FDef.row), .list false (t.ns.map strRow)], .box [.int .i64 0, .str []], v4, v5, .list false (t.fs.map FDef.row), .int .i64 t.fs.length, .int .i64 i, v9]) (t.fs.length - i) (fun n => seqC (blkC 0 some) (exec (callF tbl n) n (a32s44.seq ACode.ret))) (fun o => ∃ r st', finK [ResK.bx 3 true 2] (some o) = some (r, st') ∧ Gr st st' ∧ r = fltA (rolesS l t))) := by
      intro b st3 v9 hg3 hgo
      cases b with
      | false =>
        rw [if_pos (show (!false) = true from rfl)] at hgo
        simp (contextual := true) (implicitDefEqProofs := false) only [K32, SS, Nat.reduceAdd, Nat.reduceSub, Nat.reduceLeDiff, Nat.reduceEqDiff, reduceCtorEq]
        refine WC.leaveR ?_
        simp (contextual := true) (implicitDefEqProofs := false) only [K32, SS, Nat.reduceAdd, Nat.reduceSub, Nat.reduceLeDiff, Nat.reduceEqDiff, reduceCtorEq]
        exact WC.ret ⟨_, _, rfl, hg'.trans hg3, by rw [hS, hgo]; rfl⟩
      | true =>
        rw [if_neg (show ¬ (!true) = true by decide)] at hgo
        simp (contextual := true) (implicitDefEqProofs := false) only [K32, SS, Nat.reduceAdd, Nat.reduceSub, Nat.reduceLeDiff, Nat.reduceEqDiff, reduceCtorEq, inc]
        exact WC.next (m' := t.fs.length - (i + 1)) (by omega) ⟨hg'.trans hg3, i + 1, _, _, _, hil, rfl, hgo, rfl⟩
    simp (contextual := true) (implicitDefEqProofs := false) only [K32, SS, Nat.reduceAdd, Nat.reduceSub, Nat.reduceLeDiff, Nat.reduceEqDiff, reduceCtorEq, hil, e2, List.length_map]
    refine WC.br (fun hq => ?_) (fun hq => ?_)
    · rw [if_pos (show eqN t.n [81, 117, 101, 114, 121] = true from hq)] at hgo
      simp (contextual := true) (implicitDefEqProofs := false) only [K32, SS, Nat.reduceAdd, Nat.reduceSub, Nat.reduceLeDiff, Nat.reduceEqDiff, reduceCtorEq]
      refine WC.call i1 rfl rfl ?_
      rintro _ st3 ⟨rfl, rfl⟩
      cases hlk : lookB l a with
      | true =>
        rw [hlk] at hgo
        have := close true st3 (.str t.n) (Gr.refl _) hgo
        simp (contextual := true) (implicitDefEqProofs := false) only [K32, SS, Nat.reduceAdd, Nat.reduceSub, Nat.reduceLeDiff, Nat.reduceEqDiff, reduceCtorEq] at this ⊢
        exact this
      | false =>
        rw [hlk, Bool.false_or] at hgo
        simp (contextual := true) (implicitDefEqProofs := false) only [K32, SS, Nat.reduceAdd, Nat.reduceSub, Nat.reduceLeDiff, Nat.reduceEqDiff, reduceCtorEq]
        refine WC.call i2 rfl rfl ?_
        rintro _ st3 ⟨rfl, rfl⟩
        have := close (allB l a) st3 (.str t.n) (Gr.refl _) hgo
        simp (contextual := true) (implicitDefEqProofs := false) only [K32, SS, Nat.reduceAdd, Nat.reduceSub, Nat.reduceLeDiff, Nat.reduceEqDiff, reduceCtorEq] at this ⊢
        exact this
    rw [if_neg (show ¬ eqN t.n [81, 117, 101, 114, 121] = true by rw [hq]; decide)] at hgo
    simp (contextual := true) (implicitDefEqProofs := false) only [K32, SS, Nat.reduceAdd, Nat.reduceSub, Nat.reduceLeDiff, Nat.reduceEqDiff, reduceCtorEq]
    refine WC.br (fun hm => ?_) (fun hm => ?_)
    · rw [if_pos (show eqN t.n [77, 117, 116, 97, 116, 105, 111, 110] = true from hm)] at hgo
      cases hk1 : eqI t.k 1 with
      | false =>
        rw [hk1, Bool.false_and] at hgo
        have := close false st' (.str t.n) (Gr.refl _) hgo
        simp (contextual := true) (implicitDefEqProofs := false) only [K32, SS, Nat.reduceAdd, Nat.reduceSub, Nat.reduceLeDiff, Nat.reduceEqDiff, reduceCtorEq, hk1] at this ⊢
        exact this
      | true =>
        rw [hk1, Bool.true_and] at hgo
        simp (contextual := true) (implicitDefEqProofs := false) only [K32, SS, Nat.reduceAdd, Nat.reduceSub, Nat.reduceLeDiff, Nat.reduceEqDiff, reduceCtorEq, hk1]
        refine WC.call i3 rfl rfl ?_
        rintro _ st3 ⟨hg3, rfl⟩
        have := close (changeB l a) st3 (.str t.n) hg3 hgo
        simp (contextual := true) (implicitDefEqProofs := false) only [K32, SS, Nat.reduceAdd, Nat.reduceSub, Nat.reduceLeDiff, Nat.reduceEqDiff, reduceCtorEq] at this ⊢
        exact this
    · rw [if_neg (show ¬ eqN t.n [77, 117, 116, 97, 116, 105, 111, 110] = true by rw [hm]; decide)] at hgo
      have := close (eqI (a.args.length : Int) 0) st' (.str t.n) (Gr.refl _) hgo
      simp (contextual := true) (implicitDefEqProofs := false) only [K32, SS, Nat.reduceAdd, Nat.reduceSub, Nat.reduceLeDiff, Nat.reduceEqDiff, reduceCtorEq] at this ⊢
      exact this
  · rw [List.drop_of_length_le (by omega), rolesGo] at hgo
    simp (contextual := true) (implicitDefEqProofs := false) only [K32, SS, Nat.reduceAdd, Nat.reduceSub, Nat.reduceLeDiff, Nat.reduceEqDiff, reduceCtorEq, hil]
    refine WC.leave ?_
    simp (contextual := true) (implicitDefEqProofs := false) only [K32, SS, Nat.reduceAdd, Nat.reduceSub, Nat.reduceLeDiff, Nat.reduceEqDiff, reduceCtorEq]
    exact WC.ret ⟨_, _, rfl, hg', by rw [hS, hgo]; rfl⟩
end Go.Cb.CodeA
set_option maxRecDepth 20000
set_option linter.unusedSimpArgs false
set_option linter.unusedVariables false
namespace Go.Cb.CodeA
open Go Go.Cb
attribute [local congr] obind_congr gv_congr2 gv2_congr brT_congr seqK_congr blkK_congr m1_congr gm_congr

theorem ents_app (t : TDef) : ∀ (a : List TDef) (i : Nat), entsFrom (a ++ [t]) i = entsFrom a i ++ [(.str t.n, .int .i64 ((i + a.length : Nat) : Int))]
  | [], i => rfl
  | u :: a, i => by
    simp only [List.cons_append, entsFrom, ents_app t a (i + 1), List.length_cons]
    rw [show i + 1 + a.length = i + (a.length + 1) by omega]
theorem lk_isSome (l : List TDef) (n : List Nat) (i : Nat) : (lkI l n i).isSome = (lk l n).isSome := by
  cases h : lkI l n i with
  | none => rw [lkI_none n l i h]; rfl
  | some j => obtain ⟨_, t, _, _, h2⟩ := lkI_some n l i j h; rw [h2]; rfl

def declGo : List TDef → List TDef → Flt
  | _, [] => (0, [])
  | seen, t :: ts => if (lk seen t.n).isSome || scalarB t.n then (7, t.n) else (if beginsN t.n [95, 95] then (1, t.n) else declGo (seen ++ [t]) ts)
def checkGo (l : List TDef) : List TDef → Flt
  | [] => (0, [])
  | t :: ts => if !eqI (checkS l t).1 0 then checkS l t else checkGo l ts
def rolesLo (l : List TDef) : List TDef → Flt
  | [] => (0, [])
  | t :: ts => if !eqI (rolesS l t).1 0 then rolesS l t else rolesLo l ts
def queryN : List Nat := [81, 117, 101, 114, 121]
def behind (l : List TDef) : Flt := if !eqI (checkGo l l).1 0 then checkGo l l
  else (if !(lk l queryN).isSome || !eqI ((lk l queryN).getD TDef.zero).k 1 then (6, queryN)
  else rolesLo l l)
def buildS (l : List TDef) : Flt := if !eqI (declGo [] l).1 0 then declGo [] l else behind l

/-- what Build answers -/
def BuildA (l : List TDef) (st : St) (a : AV) (st' : St) : Prop := Gr st st' ∧ (((buildS l).1 = 0 ∧ ∃ so, Sch l so st' ∧ a = .tuple [.ptr so 0, .str [], .int .i64 0]) ∨ ((buildS l).1 ≠ 0 ∧ a = .tuple [.nilp, .str (buildS l).2, .int .i64 (buildS l).1]))
def buildQ (l : List TDef) (st : St) (o : Out) : Prop := ∃ r st', finK [ResK.v 1, ResK.v 2, ResK.v 3] (some o) = some (r, st') ∧ BuildA l st r st'
theorem mset_e (call : CallT) (bx : AV) (st : St) (o : Nat) (n : List Nat) (i : Int) : semMset 1 call [.map o, .str n, .int .i64 i] bx st =
    match st[o]? with
    | some (.map es) => (match mfind 1 (.str n) es 0 with
      | some (some (j, _)) => some (.tuple [], bx, st.set o (.map (es.set j (.str n, .int .i64 i))))
      | some none => some (.tuple [], bx, st.set o (.map (es ++ [(.str n, .int .i64 i)])))
      | none => none)
    | _ => none := by
  unfold semMset
  simp only [AV.plain, if_true, AV.weak, eqKey, Option.bind_some]
  rfl
theorem build_roles {l : List TDef} {so : Nat} {st0 st : St} (h : Sch l so st) (hg : Gr st0 st) (hS : buildS l = rolesLo l l) {v2 v3 v5 v6 v7 v8 v9 v10 v11 v12 v13 v14 v15 v16 v17 v18 v19 v20 v21 v22 : AV} :
    WC (fun n => exec (callF tbl n) n ((a10s68.seq (ACode.blk 4 (a10s70.seq ((ACode.blk 5 (a10s72.seq (a10s74.seq a10s79))).seq a10s84)).loop)).seq (a10s91.seq ACode.ret)) [.list false (l.map TDef.row), .nilp, v2, v3, .ptr so 0, v5, v6, v7, v8, v9, v10, v11, v12, v13, v14, v15, v16, v17, v18, v19, v20, v21, v22] st) (buildQ l st0) := by
  have hl := h.len
  simp (contextual := true) (implicitDefEqProofs := false) only [K10, SS, Nat.reduceAdd, Nat.reduceSub, Nat.reduceLeDiff, Nat.reduceEqDiff, reduceCtorEq, List.length_map]
  refine WC.loopR (fun mm fr st' => Gr st st' ∧ ∃ (i : Nat) (v12 v13 : AV), i ≤ l.length ∧ mm = l.length - i ∧ rolesLo l l = rolesLo l (l.drop i) ∧
    fr = [.list false (l.map TDef.row), .nilp, v2, v3, .ptr so 0, v5, v6, v7, v8, v9, v10, v11, v12, v13, v14, v15, v16, v17, v18, v19, .list false (l.map TDef.row), .int .i64 l.length, .int .i64 i]) (m := l.length) ⟨Gr.refl _, 0, _, _, Nat.zero_le _, rfl, rfl, rfl⟩ ?_
  rintro mm fr st' ⟨hg', i, v12, v13, hi, rfl, hgo, rfl⟩
  have h' := h.gr hg'
  simp (contextual := true) (implicitDefEqProofs := false) only [K10, SS, Nat.reduceAdd, Nat.reduceSub, Nat.reduceLeDiff, Nat.reduceEqDiff, reduceCtorEq]
  by_cases hil : i < l.length
  · have e2 : (l.map TDef.row)[i]? = some (l[i]).row := by rw [List.getElem?_map, List.getElem?_eq_getElem hil]; rfl
    have hok := h.ok _ (List.getElem_mem hil)
    rw [List.drop_eq_getElem_cons hil, rolesLo] at hgo
    revert hgo e2 hok
    generalize l[i] = t
    intro hgo e2 hok
    have i1 := roles_s hok h'
    rw [TDef.row] at i1 e2
    simp (contextual := true) (implicitDefEqProofs := false) only [K10, SS, Nat.reduceAdd, Nat.reduceSub, Nat.reduceLeDiff, Nat.reduceEqDiff, reduceCtorEq, hil, e2]
    refine WC.call i1 rfl rfl ?_
    rintro _ st3 ⟨hg3, rfl⟩
    simp (contextual := true) (implicitDefEqProofs := false) only [K10, SS, Nat.reduceAdd, Nat.reduceSub, Nat.reduceLeDiff, Nat.reduceEqDiff, reduceCtorEq, fltA_cells]
    refine WC.br (fun hx => ?_) (fun hx => ?_)
    · rw [if_pos hx] at hgo
      simp (contextual := true) (implicitDefEqProofs := false) only [K10, SS, Nat.reduceAdd, Nat.reduceSub, Nat.reduceLeDiff, Nat.reduceEqDiff, reduceCtorEq]
      refine WC.leaveR ?_
      simp (contextual := true) (implicitDefEqProofs := false) only [K10, SS, Nat.reduceAdd, Nat.reduceSub, Nat.reduceLeDiff, Nat.reduceEqDiff, reduceCtorEq]
      have hne : (buildS l).1 ≠ 0 := by rw [hS, hgo]; rw [eqI_eq] at hx; simpa using hx
      exact WC.ret ⟨_, _, rfl, (hg.trans hg').trans hg3, Or.inr ⟨hne, by rw [hS, hgo]; rfl⟩⟩
    · rw [if_neg (by rw [hx]; decide)] at hgo
      simp (contextual := true) (implicitDefEqProofs := false) only [K10, SS, Nat.reduceAdd, Nat.reduceSub, Nat.reduceLeDiff, Nat.reduceEqDiff, reduceCtorEq, inc64 (show i + 1 < 2 ^ 63 by omega)]
      exact WC.next (m' := l.length - (i + 1)) (by omega) ⟨hg'.trans hg3, i + 1, _, _, hil, rfl, hgo, rfl⟩
  · rw [List.drop_of_length_le (by omega), rolesLo] at hgo
    simp (contextual := true) (implicitDefEqProofs := false) only [K10, SS, Nat.reduceAdd, Nat.reduceSub, Nat.reduceLeDiff, Nat.reduceEqDiff, reduceCtorEq, hil]
    refine WC.leave ?_
    simp (contextual := true) (implicitDefEqProofs := false) only [K10, SS, Nat.reduceAdd, Nat.reduceSub, Nat.reduceLeDiff, Nat.reduceEqDiff, reduceCtorEq]
    exact WC.ret ⟨_, _, rfl, hg.trans hg', Or.inl ⟨by rw [hS, hgo], so, h', rfl⟩⟩
theorem build_check {l : List TDef} {so : Nat} {st0 st : St} (h : Sch l so st) (hg : Gr st0 st) (hS : buildS l = behind l) {v2 v3 v5 v6 v7 v8 v9 v10 v11 v12 v13 v14 v15 v16 v17 v18 v19 v20 v21 v22 : AV} :
    WC (fun n => exec (callF tbl n) n ((a10s37.seq (ACode.blk 2 (a10s39.seq ((ACode.blk 3 (a10s41.seq (a10s43.seq a10s48))).seq a10s53)).loop)).seq ((a10s60.seq a10s65).seq ((a10s68.seq (ACode.blk 4 (a10s70.seq ((ACode.blk 5 (a10s72.seq (a10s74.seq a10s79))).seq a10s84)).loop)).seq (a10s91.seq ACode.ret)))) [.list false (l.map TDef.row), .nilp, v2, v3, .ptr so 0, v5, v6, v7, v8, v9, v10, v11, v12, v13, v14, v15, v16, v17, v18, v19, v20, v21, v22] st) (buildQ l st0) := by
  have hl := h.len
  unfold behind at hS
  simp (contextual := true) (implicitDefEqProofs := false) only [K10, SS, Nat.reduceAdd, Nat.reduceSub, Nat.reduceLeDiff, Nat.reduceEqDiff, reduceCtorEq, List.length_map]
  refine WC.loopR (fun mm fr st' => Gr st st' ∧ ∃ (i : Nat) (v8 v9 : AV), i ≤ l.length ∧ mm = l.length - i ∧ checkGo l l = checkGo l (l.drop i) ∧
    fr = [.list false (l.map TDef.row), .nilp, v2, v3, .ptr so 0, v5, v6, v7, v8, v9, v10, v11, v12, v13, v14, v15, v16, .list false (l.map TDef.row), .int .i64 l.length, .int .i64 i, v20, v21, v22]) (m := l.length) ⟨Gr.refl _, 0, _, _, Nat.zero_le _, rfl, rfl, rfl⟩ ?_
  rintro mm fr st' ⟨hg', i, v8, v9, hi, rfl, hgo, rfl⟩
  have h' := h.gr hg'
  simp (contextual := true) (implicitDefEqProofs := false) only [K10, SS, Nat.reduceAdd, Nat.reduceSub, Nat.reduceLeDiff, Nat.reduceEqDiff, reduceCtorEq]
  by_cases hil : i < l.length
  · have e2 : (l.map TDef.row)[i]? = some (l[i]).row := by rw [List.getElem?_map, List.getElem?_eq_getElem hil]; rfl
    have hok := h.ok _ (List.getElem_mem hil)
    rw [List.drop_eq_getElem_cons hil, checkGo] at hgo
    revert hgo e2 hok
    generalize l[i] = t
    intro hgo e2 hok
    have i1 := check_s hok h'
    rw [TDef.row] at i1 e2
    simp (contextual := true) (implicitDefEqProofs := false) only [K10, SS, Nat.reduceAdd, Nat.reduceSub, Nat.reduceLeDiff, Nat.reduceEqDiff, reduceCtorEq, hil, e2]
    refine WC.call i1 rfl rfl ?_
    rintro _ st3 ⟨hg3, rfl⟩
    simp (contextual := true) (implicitDefEqProofs := false) only [K10, SS, Nat.reduceAdd, Nat.reduceSub, Nat.reduceLeDiff, Nat.reduceEqDiff, reduceCtorEq, fltA_cells]
    refine WC.br (fun hx => ?_) (fun hx => ?_)
    · rw [if_pos hx] at hgo
      rw [hgo, if_pos hx] at hS
      simp (contextual := true) (implicitDefEqProofs := false) only [K10, SS, Nat.reduceAdd, Nat.reduceSub, Nat.reduceLeDiff, Nat.reduceEqDiff, reduceCtorEq]
      refine WC.leaveR ?_
      simp (contextual := true) (implicitDefEqProofs := false) only [K10, SS, Nat.reduceAdd, Nat.reduceSub, Nat.reduceLeDiff, Nat.reduceEqDiff, reduceCtorEq]
      have hne : (buildS l).1 ≠ 0 := by rw [hS]; rw [eqI_eq] at hx; simpa using hx
      exact WC.ret ⟨_, _, rfl, (hg.trans hg').trans hg3, Or.inr ⟨hne, by rw [hS]; rfl⟩⟩
    · rw [if_neg (by rw [hx]; decide)] at hgo
      simp (contextual := true) (implicitDefEqProofs := false) only [K10, SS, Nat.reduceAdd, Nat.reduceSub, Nat.reduceLeDiff, Nat.reduceEqDiff, reduceCtorEq, inc64 (show i + 1 < 2 ^ 63 by omega)]
      exact WC.next (m' := l.length - (i + 1)) (by omega) ⟨hg'.trans hg3, i + 1, _, _, hil, rfl, hgo, rfl⟩
  · rw [List.drop_of_length_le (by omega), checkGo] at hgo
    rw [hgo] at hS
    have hS2 : buildS l = (if !(lk l queryN).isSome || !eqI ((lk l queryN).getD TDef.zero).k 1 then (6, queryN) else rolesLo l l) := hS
    simp (contextual := true) (implicitDefEqProofs := false) only [K10, SS, Nat.reduceAdd, Nat.reduceSub, Nat.reduceLeDiff, Nat.reduceEqDiff, reduceCtorEq, hil]
    refine WC.leave ?_
    have ht := type_s h' queryN
    unfold queryN at ht
    have hfin := fun {v8 v9 v10 v11 : AV} (hS3 : buildS l = rolesLo l l) => build_roles h' (hg.trans hg') hS3 (v2 := v2) (v3 := v3) (v5 := v5) (v6 := v6) (v7 := v7) (v8 := v8) (v9 := v9) (v10 := v10) (v11 := v11) (v12 := v12) (v13 := v13) (v14 := v14) (v15 := v15) (v16 := v16) (v17 := .list false (l.map TDef.row)) (v18 := .int .i64 l.length) (v19 := .int .i64 i) (v20 := v20) (v21 := v21) (v22 := v22)
    revert hfin
    generalize a10s68 = X
    intro hfin
    simp (contextual := true) (implicitDefEqProofs := false) only [K10, SS, Nat.reduceAdd, Nat.reduceSub, Nat.reduceLeDiff, Nat.reduceEqDiff, reduceCtorEq]
    refine WC.call ht rfl rfl ?_
    rintro _ st' ⟨rfl, rfl⟩
    unfold queryN at hS2
    revert hS2
    unfold typeA
    generalize (lk l [81, 117, 101, 114, 121]).isSome = q
    generalize (lk l [81, 117, 101, 114, 121]).getD TDef.zero = d
    intro hS2
    cases q with
    | false =>
      rw [if_pos (by simp)] at hS2
      simp (contextual := true) (implicitDefEqProofs := false) only [K10, SS, Nat.reduceAdd, Nat.reduceSub, Nat.reduceLeDiff, Nat.reduceEqDiff, reduceCtorEq, TDef.row]
      have hne : (buildS l).1 ≠ 0 := by rw [hS2]; decide
      exact WC.ret ⟨_, _, rfl, hg.trans hg', Or.inr ⟨hne, by rw [hS2]; rfl⟩⟩
    | true =>
      cases hk : eqI d.k 1 with
      | false =>
        rw [if_pos (by rw [hk]; simp)] at hS2
        simp (contextual := true) (implicitDefEqProofs := false) only [K10, SS, Nat.reduceAdd, Nat.reduceSub, Nat.reduceLeDiff, Nat.reduceEqDiff, reduceCtorEq, TDef.row, hk]
        have hne : (buildS l).1 ≠ 0 := by rw [hS2]; decide
        exact WC.ret ⟨_, _, rfl, hg.trans hg', Or.inr ⟨hne, by rw [hS2]; rfl⟩⟩
      | true =>
        rw [if_neg (by rw [hk]; decide)] at hS2
        have := hfin (v8 := v8) (v9 := v9) (v10 := .box [.int .u8 d.k, .str d.n, .list false (d.fs.map FDef.row), .list false (d.ns.map strRow)]) (v11 := .bool true) hS2
        simp (contextual := true) (implicitDefEqProofs := false) only [K10, SS, Nat.reduceAdd, Nat.reduceSub, Nat.reduceLeDiff, Nat.reduceEqDiff, reduceCtorEq, TDef.row, hk] at this ⊢
        exact this
theorem build_s (l : List TDef) (hl : l.length ≤ 3001) (hok : ∀ t ∈ l, t.OK) (st : St) : EvQ tbl 10 [.list false (l.map TDef.row)] st (fun a st' => BuildA l st a st') := by
  refine EvQ.body (fn := a10) rfl rfl rfl ?_
  show WC _ (buildQ l st)
  have hclone : EvQ tbl 28 [.list false (l.map TDef.row)] st (fun a st' => st' = st ∧ a = .list true (l.map TDef.row)) := by
    refine EvQ.of_ext (fn := a28) (r := (.list true (l.map TDef.row), st)) rfl rfl ?_ ⟨rfl, rfl⟩
    simp only [cloneX, rowsT, List.length_map, Bool.true_and]
    rw [if_pos (by simp; omega)]
  simp (contextual := true) (implicitDefEqProofs := false) only [K10, SS, Nat.reduceAdd, Nat.reduceSub, Nat.reduceLeDiff, Nat.reduceEqDiff, reduceCtorEq]
  refine WC.call hclone rfl rfl ?_
  rintro _ st ⟨rfl, rfl⟩
  simp (contextual := true) (implicitDefEqProofs := false) only [K10, SS, Nat.reduceAdd, Nat.reduceSub, Nat.reduceLeDiff, Nat.reduceEqDiff, reduceCtorEq, List.length_map]
  have g1 : ∀ es : List (AV × AV), (st ++ [Obj.map es] ++ [Obj.cells [AV.list false (l.map TDef.row), AV.map st.length]])[st.length]? = some (.map es) := fun es => by simp
  have g2 : ∀ es : List (AV × AV), (st ++ [Obj.map es] ++ [Obj.cells [AV.list false (l.map TDef.row), AV.map st.length]])[(st ++ [Obj.map []]).length]? = some (Obj.cells [AV.list false (l.map TDef.row), AV.map st.length]) := fun es => by simp
  have g3 : ∀ es es' : List (AV × AV), (st ++ [Obj.map es] ++ [Obj.cells [AV.list false (l.map TDef.row), AV.map st.length]]).set st.length (.map es') = st ++ [Obj.map es'] ++ [Obj.cells [AV.list false (l.map TDef.row), AV.map st.length]] := fun es es' => by simp
  have g4 : ∀ es : List (AV × AV), Gr st (st ++ [Obj.map es] ++ [Obj.cells [AV.list false (l.map TDef.row), AV.map st.length]]) := fun es => (Gr.app _ _).trans (Gr.app _ _)
  refine WC.loopR (fun mm fr st' => ∃ (i : Nat) (v5 v6 v7 : AV), i ≤ l.length ∧ mm = l.length - i ∧ declGo [] l = declGo (l.take i) (l.drop i) ∧ st' = st ++ [Obj.map (entsFrom (l.take i) 0)] ++ [Obj.cells [AV.list false (l.map TDef.row), AV.map st.length]] ∧
    fr = [.list false (l.map TDef.row), .nilp, .str [], .int .i64 0, .ptr (st ++ [Obj.map []]).length 0, v5, v6, v7, .undef, .undef, .undef, .undef, .undef, .undef, .list false (l.map TDef.row), .int .i64 l.length, .int .i64 i, .undef, .undef, .undef, .undef, .undef, .undef]) (m := l.length) ⟨0, _, _, _, Nat.zero_le _, rfl, rfl, rfl, rfl⟩ ?_
  rintro mm fr st' ⟨i, v5, v6, v7, hi, rfl, hgo, rfl, rfl⟩
  simp (contextual := true) (implicitDefEqProofs := false) only [K10, SS, Nat.reduceAdd, Nat.reduceSub, Nat.reduceLeDiff, Nat.reduceEqDiff, reduceCtorEq]
  by_cases hil : i < l.length
  · have e2 : (l.map TDef.row)[i]? = some (l[i]).row := by rw [List.getElem?_map, List.getElem?_eq_getElem hil]; rfl
    have e3 : l.take (i + 1) = l.take i ++ [l[i]] := by rw [List.take_add_one, List.getElem?_eq_getElem hil]; rfl
    have e4 : (l.take i).length = i := by simp; omega
    rw [List.drop_eq_getElem_cons hil, declGo] at hgo
    revert hgo e2 e3
    generalize l[i] = t
    intro hgo e2 e3
    rw [TDef.row] at e2
    have hm := mfind_ents t.n (l.take i) 0
    have hsome := lk_isSome (l.take i) t.n 0
    cases hj : lkI (l.take i) t.n 0 with
    | some j =>
      rw [hj] at hm hsome
      rw [← hsome, if_pos (by rfl)] at hgo
      simp only [Option.map_some] at hm
      simp (contextual := true) (implicitDefEqProofs := false) only [K10, SS, Nat.reduceAdd, Nat.reduceSub, Nat.reduceLeDiff, Nat.reduceEqDiff, reduceCtorEq, hil, e2, g2, mget_e, g1, hm, Option.isSome_some]
      refine WC.leaveR ?_
      simp (contextual := true) (implicitDefEqProofs := false) only [K10, SS, Nat.reduceAdd, Nat.reduceSub, Nat.reduceLeDiff, Nat.reduceEqDiff, reduceCtorEq]
      have hb : buildS l = (7, t.n) := by rw [buildS, hgo]; rfl
      exact WC.ret ⟨_, _, rfl, g4 _, Or.inr ⟨by rw [hb]; simp, by rw [hb]; rfl⟩⟩
    | none =>
      rw [hj] at hm hsome
      rw [← hsome, Option.isSome_none, Bool.false_or] at hgo
      simp only [Option.map_none] at hm
      simp (contextual := true) (implicitDefEqProofs := false) only [K10, SS, Nat.reduceAdd, Nat.reduceSub, Nat.reduceLeDiff, Nat.reduceEqDiff, reduceCtorEq, hil, e2, g2, mget_e, g1, hm, Option.isSome_none, chunks]
      refine WC.call (contains_q scalars (by decide) t.n _) rfl rfl ?_
      rintro _ _ ⟨hst, rfl⟩
      subst hst
      simp (contextual := true) (implicitDefEqProofs := false) only [K10, SS, Nat.reduceAdd, Nat.reduceSub, Nat.reduceLeDiff, Nat.reduceEqDiff, reduceCtorEq]
      refine WC.br (fun hx => ?_) (fun hx => ?_)
      · rw [if_pos (show scalarB t.n = true from hx)] at hgo
        simp (contextual := true) (implicitDefEqProofs := false) only [K10, SS, Nat.reduceAdd, Nat.reduceSub, Nat.reduceLeDiff, Nat.reduceEqDiff, reduceCtorEq]
        refine WC.leaveR ?_
        simp (contextual := true) (implicitDefEqProofs := false) only [K10, SS, Nat.reduceAdd, Nat.reduceSub, Nat.reduceLeDiff, Nat.reduceEqDiff, reduceCtorEq]
        have hb : buildS l = (7, t.n) := by rw [buildS, hgo]; rfl
        exact WC.ret ⟨_, _, rfl, g4 _, Or.inr ⟨by rw [hb]; simp, by rw [hb]; rfl⟩⟩
      rw [if_neg (show ¬ scalarB t.n = true by rw [show scalarB t.n = false from hx]; decide)] at hgo
      simp (contextual := true) (implicitDefEqProofs := false) only [K10, SS, Nat.reduceAdd, Nat.reduceSub, Nat.reduceLeDiff, Nat.reduceEqDiff, reduceCtorEq]
      refine WC.call (hasPrefix_q t.n _ _) rfl rfl ?_
      rintro _ _ ⟨hst, rfl⟩
      subst hst
      simp (contextual := true) (implicitDefEqProofs := false) only [K10, SS, Nat.reduceAdd, Nat.reduceSub, Nat.reduceLeDiff, Nat.reduceEqDiff, reduceCtorEq]
      refine WC.br (fun hx => ?_) (fun hx => ?_)
      · rw [if_pos hx] at hgo
        simp (contextual := true) (implicitDefEqProofs := false) only [K10, SS, Nat.reduceAdd, Nat.reduceSub, Nat.reduceLeDiff, Nat.reduceEqDiff, reduceCtorEq]
        refine WC.leaveR ?_
        simp (contextual := true) (implicitDefEqProofs := false) only [K10, SS, Nat.reduceAdd, Nat.reduceSub, Nat.reduceLeDiff, Nat.reduceEqDiff, reduceCtorEq]
        have hb : buildS l = (1, t.n) := by rw [buildS, hgo]; rfl
        exact WC.ret ⟨_, _, rfl, g4 _, Or.inr ⟨by rw [hb]; simp, by rw [hb]; rfl⟩⟩
      rw [if_neg (by rw [hx]; decide)] at hgo
      simp (contextual := true) (implicitDefEqProofs := false) only [K10, SS, Nat.reduceAdd, Nat.reduceSub, Nat.reduceLeDiff, Nat.reduceEqDiff, reduceCtorEq, g2, g1, mset_e, hm, g3, inc64 (show i + 1 < 2 ^ 63 by omega)]
      refine WC.next (m' := l.length - (i + 1)) (by omega) ⟨i + 1, _, _, _, hil, rfl, by rw [hgo, e3], ?_, rfl⟩
      rw [e3, ents_app, e4, Nat.zero_add]
  · rw [List.drop_of_length_le (by omega), declGo] at hgo
    have hbe : buildS l = behind l := by rw [buildS, hgo]; rfl
    rw [List.take_of_length_le (by omega)] at *
    have hSch : Sch l (st ++ [Obj.map []]).length (st ++ [Obj.map (entsFrom l 0)] ++ [Obj.cells [AV.list false (l.map TDef.row), AV.map st.length]]) := ⟨hl, hok, _, _, g2 _, g1 _⟩
    have := build_check hSch (g4 _) hbe (v2 := .str []) (v3 := .int .i64 0) (v5 := v5) (v6 := v6) (v7 := v7) (v8 := .undef) (v9 := .undef) (v10 := .undef) (v11 := .undef) (v12 := .undef) (v13 := .undef) (v14 := .list false (l.map TDef.row)) (v15 := .int .i64 l.length) (v16 := .int .i64 i) (v17 := .undef) (v18 := .undef) (v19 := .undef) (v20 := .undef) (v21 := .undef) (v22 := .undef)
    simp (contextual := true) (implicitDefEqProofs := false) only [K10, SS, Nat.reduceAdd, Nat.reduceSub, Nat.reduceLeDiff, Nat.reduceEqDiff, reduceCtorEq, hil]
    refine WC.leave ?_
    simp only [seqC_x, blkC_x, blkK_some, blkOut_exit, if_true, seqK_normal]
    exact this
end Go.Cb.CodeA
/- What functions of the abstract machine answer. No conditions but those that each theorem names. -/
set_option maxRecDepth 20000
set_option linter.unusedSimpArgs false
set_option linter.unusedVariables false
namespace Go.Cb.CodeA
open Go Go.Cb
attribute [local congr] obind_congr gv_congr2 gv2_congr brT_congr seqK_congr blkK_congr m1_congr gm_congr

theorem eqN_refl (n : List Nat) : eqN n n = true := by rw [eqN_eq]; simp
end Go.Cb.CodeA
set_option maxRecDepth 20000
set_option linter.unusedSimpArgs false
set_option linter.unusedVariables false
namespace Go.Cb.CodeA
open Go Go.Cb
attribute [local congr] obind_congr gv_congr2 gv2_congr brT_congr seqK_congr blkK_congr m1_congr gm_congr

def oneOf (n : List Nat) (u : TDef) : Bool := eqI u.k 1 && hasN u.ns n
/-- of which types a thing of a type may be -/
def possS (l : List TDef) (n : List Nat) : List (List Nat) := match lk l n with
  | none => []
  | some t => if eqI t.k 1 then [n] else (if eqI t.k 3 then t.ns else (if !eqI t.k 2 then [] else (l.filter (oneOf n)).map (fun u => u.n)))
theorem poss_s {l : List TDef} {so : Nat} {st : St} (h : Sch l so st) (n : List Nat) : EvQ tbl 11 [.ptr so 0, .str n] st (fun a st' => st' = st ∧ a = .list false ((possS l n).map strRow)) := by
  have hlen := h.len
  have hd := lk_ok h n
  unfold possS
  refine EvQ.body (fn := a11) rfl rfl rfl ?_
  simp (contextual := true) (implicitDefEqProofs := false) only [K11, SS, Nat.reduceAdd, Nat.reduceSub, Nat.reduceLeDiff, Nat.reduceEqDiff, reduceCtorEq]
  refine WC.call (type_s h n) rfl rfl ?_
  rintro _ st ⟨rfl, rfl⟩
  revert hd
  cases hl : lk l n with
  | none =>
    intro hd
    simp (contextual := true) (implicitDefEqProofs := false) only [K11, SS, Nat.reduceAdd, Nat.reduceSub, Nat.reduceLeDiff, Nat.reduceEqDiff, reduceCtorEq, typeA, Option.getD_none, TDef.zero, TDef.row, Option.isSome_none]
    exact WC.ret ⟨_, _, rfl, rfl, rfl⟩
  | some t =>
    rw [Option.getD_some]
    intro hd
    have hln := hd.ln
    have ho := h.ob
    obtain ⟨w, mo, h1, h2⟩ := ho
    simp (contextual := true) (implicitDefEqProofs := false) only [K11, SS, Nat.reduceAdd, Nat.reduceSub, Nat.reduceLeDiff, Nat.reduceEqDiff, reduceCtorEq, typeA, Option.getD_some, TDef.row, Option.isSome_some]
    refine WC.br (fun hk => ?_) (fun hk => ?_)
    · rw [if_pos hk]
      simp (contextual := true) (implicitDefEqProofs := false) only [K11, SS, Nat.reduceAdd, Nat.reduceSub, Nat.reduceLeDiff, Nat.reduceEqDiff, reduceCtorEq]
      exact WC.ret ⟨_, _, rfl, rfl, rfl⟩
    rw [if_neg (by rw [hk]; decide)]
    simp (contextual := true) (implicitDefEqProofs := false) only [K11, SS, Nat.reduceAdd, Nat.reduceSub, Nat.reduceLeDiff, Nat.reduceEqDiff, reduceCtorEq]
    refine WC.br (fun hk => ?_) (fun hk => ?_)
    · rw [if_pos hk]
      have hclone : EvQ tbl 33 [.list false (t.ns.map strRow)] st (fun a st' => st' = st ∧ a = .list true (t.ns.map strRow)) := by
        refine EvQ.of_ext (fn := a33) (r := (.list true (t.ns.map strRow), st)) rfl rfl ?_ ⟨rfl, rfl⟩
        simp only [cloneX, rowsStr, List.length_map, Bool.true_and]
        rw [if_pos (by simp; omega)]
      simp (contextual := true) (implicitDefEqProofs := false) only [K11, SS, Nat.reduceAdd, Nat.reduceSub, Nat.reduceLeDiff, Nat.reduceEqDiff, reduceCtorEq]
      refine WC.call hclone rfl rfl ?_
      rintro _ st ⟨rfl, rfl⟩
      simp (contextual := true) (implicitDefEqProofs := false) only [K11, SS, Nat.reduceAdd, Nat.reduceSub, Nat.reduceLeDiff, Nat.reduceEqDiff, reduceCtorEq]
      exact WC.ret ⟨_, _, rfl, rfl, rfl⟩
    rw [if_neg (by rw [hk]; decide)]
    simp (contextual := true) (implicitDefEqProofs := false) only [K11, SS, Nat.reduceAdd, Nat.reduceSub, Nat.reduceLeDiff, Nat.reduceEqDiff, reduceCtorEq]
    refine WC.br (fun hk => ?_) (fun hk => ?_)
    · rw [if_pos hk]
      simp (contextual := true) (implicitDefEqProofs := false) only [K11, SS, Nat.reduceAdd, Nat.reduceSub, Nat.reduceLeDiff, Nat.reduceEqDiff, reduceCtorEq]
      exact WC.ret ⟨_, _, rfl, rfl, rfl⟩
    rw [if_neg (by rw [hk]; decide)]
    simp (contextual := true) (implicitDefEqProofs := false) only [K11, SS, Nat.reduceAdd, Nat.reduceSub, Nat.reduceLeDiff, Nat.reduceEqDiff, reduceCtorEq, h1, List.length_map]
    refine WC.loopR (fun mm fr st' => st' = st ∧ ∃ (i : Nat) (v6 : AV), i ≤ l.length ∧ mm = l.length - i ∧
      fr = [.ptr so 0, .str n, .list true [], .box [.int .u8 t.k, .str t.n, .list false (t.fs.map FDef.row), .list false (t.ns.map strRow)], .bool true, .list true ((((l.take i).filter (oneOf n)).map (fun u => u.n)).map strRow), v6, .list false (l.map TDef.row), .int .i64 l.length, .int .i64 i]) (m := l.length) ⟨rfl, 0, _, Nat.zero_le _, rfl, rfl⟩ ?_
    rintro mm fr st' ⟨rfl, i, v6, hi, rfl, rfl⟩
    simp (contextual := true) (implicitDefEqProofs := false) only [K11, SS, Nat.reduceAdd, Nat.reduceSub, Nat.reduceLeDiff, Nat.reduceEqDiff, reduceCtorEq]
    by_cases hil : i < l.length
    · have e2 : (l.map TDef.row)[i]? = some (l[i]).row := by rw [List.getElem?_map, List.getElem?_eq_getElem hil]; rfl
      have e3 : l.take (i + 1) = l.take i ++ [l[i]] := by rw [List.take_add_one, List.getElem?_eq_getElem hil]; rfl
      have hu := h.ok _ (List.getElem_mem hil)
      revert e2 e3 hu
      generalize l[i] = u
      intro e2 e3 hu
      have hun := hu.ln
      have i1 := inc64 (show i + 1 < 2 ^ 63 by omega)
      rw [TDef.row] at e2
      have hf : ∀ b, oneOf n u = b → (l.take (i + 1)).filter (oneOf n) = (l.take i).filter (oneOf n) ++ (if b then [u] else []) := by
        intro b hb
        rw [e3, List.filter_append]
        cases b <;> simp [hb]
      cases hk1 : eqI u.k 1 with
      | false =>
        have hff := hf false (by rw [oneOf, hk1]; rfl)
        simp (contextual := true) (implicitDefEqProofs := false) only [K11, SS, Nat.reduceAdd, Nat.reduceSub, Nat.reduceLeDiff, Nat.reduceEqDiff, reduceCtorEq, hil, e2, hk1, i1]
        exact WC.next (m' := l.length - (i + 1)) (by omega) ⟨rfl, i + 1, _, hil, rfl, by rw [hff]; simp only [Bool.false_eq_true, if_false, List.append_nil]; rfl⟩
      | true =>
        simp (contextual := true) (implicitDefEqProofs := false) only [K11, SS, Nat.reduceAdd, Nat.reduceSub, Nat.reduceLeDiff, Nat.reduceEqDiff, reduceCtorEq, hil, e2, hk1]
        refine WC.call (contains_q u.ns (by omega) n _) rfl rfl ?_
        rintro _ st' ⟨rfl, rfl⟩
        cases hc : hasN u.ns n with
        | false =>
          have hff := hf false (by rw [oneOf, hk1, hc]; rfl)
          simp (contextual := true) (implicitDefEqProofs := false) only [K11, SS, Nat.reduceAdd, Nat.reduceSub, Nat.reduceLeDiff, Nat.reduceEqDiff, reduceCtorEq, i1]
          exact WC.next (m' := l.length - (i + 1)) (by omega) ⟨rfl, i + 1, _, hil, rfl, by rw [hff]; simp only [Bool.false_eq_true, if_false, List.append_nil]; rfl⟩
        | true =>
          have hff := hf true (by rw [oneOf, hk1, hc]; rfl)
          have hcount : ((((l.take i).filter (oneOf n)).map (fun u => u.n)).map strRow).length ≤ 3001 := by
            rw [List.length_map, List.length_map]
            have := List.length_filter_le (oneOf n) (l.take i)
            simp only [List.length_take] at this
            omega
          simp (contextual := true) (implicitDefEqProofs := false) only [K11, SS, Nat.reduceAdd, Nat.reduceSub, Nat.reduceLeDiff, Nat.reduceEqDiff, reduceCtorEq, i1, rowsStr, show (((((l.take i).filter (oneOf n)).map (fun u => u.n)).map strRow).length + 1) * 16 ≤ 2 ^ 47 by omega]
          refine WC.next (m' := l.length - (i + 1)) (by omega) ⟨rfl, i + 1, .box [.int .u8 u.k, .str u.n, .list false (u.fs.map FDef.row), .list false (u.ns.map strRow)], hil, rfl, ?_⟩
          rw [hff]
          simp only [if_true, List.map_append, List.map_cons, List.map_nil, strRow]
    · simp (contextual := true) (implicitDefEqProofs := false) only [K11, SS, Nat.reduceAdd, Nat.reduceSub, Nat.reduceLeDiff, Nat.reduceEqDiff, reduceCtorEq, hil]
      refine WC.leave ?_
      simp (contextual := true) (implicitDefEqProofs := false) only [K11, SS, Nat.reduceAdd, Nat.reduceSub, Nat.reduceLeDiff, Nat.reduceEqDiff, reduceCtorEq]
      exact WC.ret ⟨_, _, rfl, rfl, by rw [List.take_of_length_le (by omega)]; rfl⟩
def typenameN : List Nat := [95, 95, 116, 121, 112, 101, 110, 97, 109, 101]
end Go.Cb.CodeA
set_option maxRecDepth 20000
set_option linter.unusedSimpArgs false
set_option linter.unusedVariables false
namespace Go.Cb.CodeA
open Go Go.Cb
attribute [local congr] obind_congr gv_congr2 gv2_congr brT_congr seqK_congr blkK_congr m1_congr gm_congr

theorem eqN_iff (a b : List Nat) : eqN a b = true ↔ a = b := by rw [eqN_eq]; simp
theorem eqN_false (a b : List Nat) : eqN a b = false ↔ a ≠ b := by rw [eqN_eq]; simp
theorem eqI_iff (a b : Int) : eqI a b = true ↔ a = b := by rw [eqI_eq]; simp
/-- what is declared is found under its name -/
theorem decl_lk : ∀ (l seen : List TDef), (declGo seen l).1 = 0 → ∀ t ∈ l, lk (seen ++ l) t.n = some t
  | [], _, _, t, ht => by cases ht
  | u :: l, seen, h0, t, ht => by
    rw [declGo] at h0
    by_cases h1 : ((lk seen u.n).isSome || scalarB u.n) = true
    · rw [if_pos h1] at h0; simp at h0
    rw [if_neg h1] at h0
    by_cases h2 : beginsN u.n [95, 95] = true
    · rw [if_pos h2] at h0; simp at h0
    rw [if_neg h2] at h0
    have ih := decl_lk l (seen ++ [u]) h0
    rw [List.append_assoc] at ih
    rcases List.mem_cons.1 ht with rfl | ht
    · have hn : lk seen t.n = none := by
        simp only [Bool.or_eq_true, not_or] at h1
        simpa using h1.1
      unfold lk at hn ⊢
      rw [List.find?_append, hn]
      simp [eqN_refl]
    · exact ih t ht
theorem fold_zero {f : Flt} {r : Flt} (h : (if !eqI f.1 0 then f else r).1 = 0) : f.1 = 0 ∧ r.1 = 0 := by
  by_cases hf : f.1 = 0
  · rw [if_neg (by rw [eqI_eq, hf]; simp)] at h
    exact ⟨hf, h⟩
  · rw [if_pos (by rw [eqI_eq]; simpa using hf)] at h
    exact absurd h hf
theorem checkGo_all (l : List TDef) : ∀ r : List TDef, (checkGo l r).1 = 0 → ∀ t ∈ r, (checkS l t).1 = 0
  | [], _, t, ht => by cases ht
  | u :: r, h, t, ht => by
    rw [checkGo] at h
    obtain ⟨h1, h2⟩ := fold_zero h
    rcases List.mem_cons.1 ht with rfl | ht
    · exact h1
    · exact checkGo_all l r h2 t ht
theorem build_zero {l : List TDef} (h : (buildS l).1 = 0) : (declGo [] l).1 = 0 ∧ (checkGo l l).1 = 0 ∧ (!(lk l queryN).isSome || !eqI ((lk l queryN).getD TDef.zero).k 1) = false ∧ (rolesLo l l).1 = 0 := by
  unfold buildS at h
  obtain ⟨h1, h2⟩ := fold_zero h
  unfold behind at h2
  obtain ⟨h3, h4⟩ := fold_zero h2
  by_cases hq : (!(lk l queryN).isSome || !eqI ((lk l queryN).getD TDef.zero).k 1) = true
  · rw [if_pos hq] at h4; simp at h4
  · rw [if_neg hq] at h4
    exact ⟨h1, h3, by simpa only [Bool.not_eq_true] using hq, h4⟩
theorem check_zero {l : List TDef} {t : TDef} (h : (checkS l t).1 = 0) : (twiceS (namesF t.fs)).1 = 0 ∧ (twiceS t.ns).1 = 0 ∧ (fieldsGo l (eqI t.k 5) t.fs).1 = 0 ∧ (namesGo l t t.ns).1 = 0 := by
  unfold checkS at h
  by_cases h0 : (!eqI (twiceS (namesF t.fs ++ t.ns)).1 0 && !eqI t.k 1) = true
  · rw [if_pos h0] at h
    simp only [Bool.and_eq_true, Bool.not_eq_true'] at h0
    rw [eqI_eq, h] at h0
    simp at h0
  rw [if_neg h0] at h
  obtain ⟨h1, h2⟩ := fold_zero h
  obtain ⟨h3, h4⟩ := fold_zero h2
  obtain ⟨h5, h6⟩ := fold_zero h4
  exact ⟨h1, h3, h5, h6⟩
theorem twiceGo_zero : ∀ (l seen : List (List Nat)), (twiceGo seen l).1 = 0 → ∀ n ∈ l, hasN seen n = false ∧ beginsN n [95, 95] = false
  | [], _, _, n, hn => by cases hn
  | m :: l, seen, h, n, hn => by
    rw [twiceGo] at h
    by_cases h1 : hasN seen m = true
    · rw [if_pos h1] at h; simp at h
    rw [if_neg h1] at h
    by_cases h2 : beginsN m [95, 95] = true
    · rw [if_pos h2] at h; simp at h
    rw [if_neg h2] at h
    rcases List.mem_cons.1 hn with rfl | hn
    · exact ⟨by simpa using h1, by simpa using h2⟩
    · have := twiceGo_zero l (seen ++ [m]) h n hn
      refine ⟨?_, this.2⟩
      have h3 := this.1
      unfold hasN at h3 ⊢
      rw [List.any_append] at h3
      simp only [Bool.or_eq_false_iff] at h3
      exact h3.1
theorem twice_fld : ∀ (fs : List FDef) (seen : List (List Nat)), (twiceGo seen (namesF fs)).1 = 0 → ∀ f ∈ fs, fldAt fs f.name = some f
  | [], _, _, f, hf => by cases hf
  | g :: fs, seen, h, f, hf => by
    simp only [namesF, List.map_cons] at h
    have hall := twiceGo_zero _ _ h
    rw [twiceGo] at h
    by_cases h1 : hasN seen g.name = true
    · rw [if_pos h1] at h; simp at h
    rw [if_neg h1] at h
    by_cases h2 : beginsN g.name [95, 95] = true
    · rw [if_pos h2] at h; simp at h
    rw [if_neg h2] at h
    rcases List.mem_cons.1 hf with rfl | hf
    · simp [fldAt, eqN_refl]
    · have ih := twice_fld fs (seen ++ [g.name]) h f hf
      have hz := (twiceGo_zero _ _ h f.name (List.mem_map.2 ⟨f, hf, rfl⟩)).1
      have hne : eqN f.name g.name = false := by
        unfold hasN at hz
        rw [List.any_append] at hz
        simp only [List.any_cons, List.any_nil, Bool.or_false, Bool.or_eq_false_iff] at hz
        exact hz.2
      unfold fldAt at ih ⊢
      rw [List.find?_cons, hne]
      exact ih
theorem names_zero {l : List TDef} {t : TDef} (hk : t.k ≠ 4) : ∀ ns : List (List Nat), (namesGo l t ns).1 = 0 → ∀ n ∈ ns, ∃ u, lk l n = some u ∧ u.k = wantK t.k ∧ rootB n = false ∧ (t.k = 1 → implS t u = true)
  | [], _, n, hn => by cases hn
  | m :: ns, h, n, hn => by
    rw [namesGo, if_neg (by rw [eqI_eq]; simpa using hk)] at h
    by_cases h1 : (!(lk l m).isSome) = true
    · rw [if_pos h1] at h; simp at h
    rw [if_neg h1] at h
    by_cases h2 : (!eqI ((lk l m).getD TDef.zero).k (wantK t.k) || rootB m) = true
    · rw [if_pos h2] at h; simp at h
    rw [if_neg h2] at h
    by_cases h3 : (eqI t.k 1 && !implS t ((lk l m).getD TDef.zero)) = true
    · rw [if_pos h3] at h; simp at h
    rw [if_neg h3] at h
    rcases List.mem_cons.1 hn with rfl | hn
    · cases hl : lk l n with
      | none => rw [hl] at h1; simp at h1
      | some u =>
        rw [hl, Option.getD_some] at h2 h3
        simp only [Bool.or_eq_true, Bool.not_eq_true', not_or, Bool.not_eq_false, Bool.not_eq_true] at h2
        refine ⟨u, rfl, (eqI_iff _ _).1 h2.1, h2.2, fun hk1 => ?_⟩
        rw [hk1] at h3
        simpa [eqI_eq] using h3
    · exact names_zero hk ns h n hn
theorem sameT_refl : ∀ t : TRef, sameT t t = true
  | .base n b => by simp [sameT, eqN_refl]
  | .wrap t b => by simp [sameT, sameT_refl t]
theorem typename_begins : beginsN typenameN [95, 95] = true := by decide
/-- what is possible for a declared type is an object that has its fields -/
theorem possible_plain {l : List TDef} (hok : ∀ t ∈ l, t.OK) (h : (buildS l).1 = 0) : ∀ t ∈ l, (∀ f ∈ t.fs, eqN f.name typenameN = false) ∧ ∀ p ∈ possS l t.n, ∃ u, lk l p = some u ∧ u.k = 1 ∧ ∀ f ∈ t.fs, ∃ g, fldAt u.fs f.name = some g ∧ sameT g.ty f.ty = true := by
  intro t ht
  obtain ⟨hdecl, hcheck, _, _⟩ := build_zero h
  have hlk := decl_lk l [] hdecl
  rw [List.nil_append] at hlk
  have hchk := checkGo_all l l hcheck
  obtain ⟨c1, c2, c3, c4⟩ := check_zero (hchk t ht)
  have htn : ∀ f ∈ t.fs, eqN f.name typenameN = false := by
    intro f hf
    have := (twiceGo_zero _ _ c1 f.name (List.mem_map.2 ⟨f, hf, rfl⟩)).2
    rw [eqN_false]
    intro e
    rw [e, typename_begins] at this
    cases this
  refine ⟨htn, fun p hp => ?_⟩
  unfold possS at hp
  rw [hlk t ht] at hp
  dsimp only at hp
  by_cases k1 : eqI t.k 1 = true
  · rw [if_pos k1] at hp
    simp only [List.mem_cons, List.not_mem_nil, or_false] at hp
    subst hp
    exact ⟨t, hlk t ht, (eqI_iff _ _).1 k1, fun f hf => ⟨f, twice_fld t.fs [] c1 f hf, sameT_refl _⟩⟩
  rw [if_neg k1] at hp
  by_cases k3 : eqI t.k 3 = true
  · rw [if_pos k3] at hp
    have k3' := (eqI_iff _ _).1 k3
    obtain ⟨u, hu, huk, _, _⟩ := names_zero (by rw [k3']; decide) _ c4 p hp
    refine ⟨u, hu, ?_, fun f hf => ?_⟩
    · rw [huk, k3']; rfl
    · rw [(hok t ht).un k3'] at hf; cases hf
  rw [if_neg k3] at hp
  by_cases k2 : (!eqI t.k 2) = true
  · rw [if_pos k2] at hp; cases hp
  rw [if_neg k2] at hp
  obtain ⟨u, hu, rfl⟩ := List.mem_map.1 hp
  obtain ⟨hul, hone⟩ := List.mem_filter.1 hu
  simp only [oneOf, Bool.and_eq_true] at hone
  have uk := (eqI_iff _ _).1 hone.1
  obtain ⟨d1, d2, d3, d4⟩ := check_zero (hchk u hul)
  have hmem : t.n ∈ u.ns := by
    have := hone.2
    unfold hasN at this
    obtain ⟨x, hx, e⟩ := List.any_eq_true.1 this
    rw [(eqN_iff _ _).1 e]
    exact hx
  obtain ⟨v, hv, _, _, himp⟩ := names_zero (by rw [uk]; decide) _ d4 t.n hmem
  rw [hlk t ht] at hv
  obtain rfl := Option.some.inj hv
  refine ⟨u, hlk u hul, uk, fun f hf => ?_⟩
  have hi := himp uk
  unfold implS at hi
  simp only [Bool.not_eq_true', List.any_eq_false] at hi
  have hlack := hi f hf
  unfold lacks at hlack
  cases hfl : fldAt u.fs f.name with
  | none => rw [hfl] at hlack; simp at hlack
  | some g =>
    rw [hfl] at hlack
    exact ⟨g, rfl, by simpa using hlack⟩
end Go.Cb.CodeA
/- What functions of the abstract machine answer. No conditions but those that each theorem names. -/
set_option maxRecDepth 20000
set_option linter.unusedSimpArgs false
set_option linter.unusedVariables false
namespace Go.Cb.CodeA
open Go Go.Cb

theorem decl_iff : ∀ (l seen : List TDef), (declGo seen l).1 = 0 ↔ (∀ t ∈ l, lk seen t.n = none ∧ scalarB t.n = false ∧ beginsN t.n [95, 95] = false) ∧ (l.map fun t => t.n).Nodup
  | [], _ => by simp [declGo]
  | u :: l, seen => by
    rw [declGo]
    by_cases h1 : ((lk seen u.n).isSome || scalarB u.n) = true
    · rw [if_pos h1]
      constructor
      · intro h; simp at h
      · intro ⟨h, _⟩
        have := h u (List.mem_cons_self ..)
        rw [this.1, this.2.1] at h1
        simp at h1
    rw [if_neg h1]
    simp only [Bool.or_eq_true, not_or, Bool.not_eq_true, Option.isSome_eq_false_iff, Option.isNone_iff_eq_none] at h1
    by_cases h2 : beginsN u.n [95, 95] = true
    · rw [if_pos h2]
      constructor
      · intro h; simp at h
      · intro ⟨h, _⟩
        have := (h u (List.mem_cons_self ..)).2.2
        rw [h2] at this; cases this
    rw [if_neg h2, decl_iff l (seen ++ [u])]
    have key : ∀ n, lk (seen ++ [u]) n = none ↔ lk seen n = none ∧ n ≠ u.n := by
      intro n
      unfold lk
      rw [List.find?_append]
      cases h : seen.find? (fun t => eqN n t.n) with
      | some x => simp
      | none =>
        simp only [Option.none_or, true_and]
        rw [List.find?_cons]
        by_cases e : n = u.n
        · subst e; simp [eqN_refl]
        · rw [(eqN_false _ _).2 e]; simp [e]
    simp only [key, List.mem_cons, forall_eq_or_imp, List.map_cons, List.nodup_cons, List.mem_map, not_exists, not_and]
    constructor
    · rintro ⟨ha, hn⟩
      exact ⟨⟨⟨h1.1, h1.2, by simpa using h2⟩, fun t ht => ⟨(ha t ht).1.1, (ha t ht).2⟩⟩, fun t ht e => (ha t ht).1.2 e, hn⟩
    · rintro ⟨⟨_, ha⟩, hm, hn⟩
      exact ⟨fun t ht => ⟨⟨(ha t ht).1, fun e => hm t ht e⟩, (ha t ht).2⟩, hn⟩
theorem lk_iff {l : List TDef} (hn : (l.map fun t => t.n).Nodup) (n : List Nat) (t : TDef) : lk l n = some t ↔ t ∈ l ∧ t.n = n := by
  induction l with
  | nil => simp [lk]
  | cons u l ih =>
    rw [List.map_cons, List.nodup_cons] at hn
    unfold lk at ih ⊢
    rw [List.find?_cons]
    by_cases e : n = u.n
    · subst e
      simp only [eqN_refl, Option.some.injEq, List.mem_cons]
      constructor
      · rintro rfl; exact ⟨Or.inl rfl, rfl⟩
      · rintro ⟨rfl | h, e⟩
        · rfl
        · exact absurd (List.mem_map.2 ⟨t, h, e⟩) hn.1
    · rw [(eqN_false _ _).2 e]
      simp only [ih hn.2, List.mem_cons]
      constructor
      · rintro ⟨h, e⟩; exact ⟨Or.inr h, e⟩
      · rintro ⟨rfl | h, e'⟩
        · exact absurd e'.symm e
        · exact ⟨h, e'⟩
theorem lk_perm {l m : List TDef} (hp : l.Perm m) (hn : (l.map fun t => t.n).Nodup) : lk l = lk m := by
  funext n
  have hn' : (m.map fun t => t.n).Nodup := (hp.map _).nodup_iff.1 hn
  apply Option.ext
  intro t
  show lk l n = some t ↔ lk m n = some t
  rw [lk_iff hn, lk_iff hn', hp.mem_iff]

section
variable {l m : List TDef} (h : lk l = lk m)
include h
theorem kindB_c (n : List Nat) (k : Int) : kindB l n k = kindB m n k := by unfold kindB; rw [h]
theorem compB_c (n : List Nat) : compB l n = compB m n := by unfold compB; simp only [kindB_c h]
theorem fitsT_c (k n : Int) (s : List Nat) (ks : List (List Nat)) (cs : List (TRef → Bool)) : ∀ t, fitsT l k n s ks cs t = fitsT m k n s ks cs t
  | .wrap u b => by rw [fitsT, fitsT, fitsT_c k n s ks cs u]
  | .base u b => by rw [fitsT, fitsT, h]
theorem fitsV_all : (∀ v : Val, fitsV l v = fitsV m v) ∧ (∀ vs : List Val, fitsL l vs = fitsL m vs) := by
  have key : ∀ v : Val, fitsV l v = fitsV m v := by
    intro v
    refine Val.rec (motive_1 := fun v => fitsV l v = fitsV m v) (motive_2 := fun vs => fitsL l vs = fitsL m vs) ?_ ?_ ?_ v
    · intro k n s ks ls ih
      funext t
      rw [fitsV, fitsV, ih, fitsT_c h]
    · rw [fitsL, fitsL]
    · intro v vs h1 h2
      rw [fitsL, fitsL, h1, h2]
  refine ⟨key, fun vs => ?_⟩
  induction vs with
  | nil => rw [fitsL, fitsL]
  | cons v vs ih => rw [fitsL, fitsL, key v, ih]
theorem fieldS_c (f : FDef) : ∀ inn, fieldS l f inn = fieldS m f inn := by
  refine FDef.rec (motive_1 := fun f => ∀ inn, fieldS l f inn = fieldS m f inn) (motive_2 := fun as => argsS l as = argsS m as) ?_ ?_ ?_ f
  · intro nm as t has v ih inn
    rw [fieldS, fieldS, h, (fitsV_all h).1, ih]
    simp only [kindB_c h]
  · rw [argsS, argsS]
  · intro a as h1 h2
    rw [argsS, argsS, h1, h2, kindB_c h]
theorem fieldsGo_c (inn : Bool) : ∀ fs, fieldsGo l inn fs = fieldsGo m inn fs
  | [] => rfl
  | f :: fs => by rw [fieldsGo, fieldsGo, fieldS_c h, fieldsGo_c inn fs]
theorem namesGo_c (t : TDef) : ∀ ns, namesGo l t ns = namesGo m t ns
  | [] => rfl
  | n :: ns => by rw [namesGo, namesGo, h, namesGo_c t ns]
theorem checkS_c (t : TDef) : checkS l t = checkS m t := by
  unfold checkS
  rw [fieldsGo_c h, namesGo_c h]
theorem matchB_c : ∀ t u, matchB l t u = matchB m t u
  | .wrap t _, .wrap u _ => by rw [matchB, matchB, matchB_c t u]
  | .base n _, .base k _ => by rw [matchB, matchB, compB_c h]
  | .wrap _ _, .base _ _ => rfl
  | .base _ _, .wrap _ _ => rfl
theorem changeB_c (f : FDef) : changeB l f = changeB m f := by
  have hu : ∀ fs, untold l fs = untold m fs := by
    intro fs
    funext x
    unfold untold
    simp only [matchB_c h]
  have ha : ∀ t as, argsB l t as = argsB m t as := by
    intro t as
    unfold argsB
    rw [h, hu]
  unfold changeB
  rw [h, ha]
theorem rolesGo_c (t : TDef) : ∀ fs, rolesGo l t fs = rolesGo m t fs
  | [] => rfl
  | f :: fs => by
    have h1 : lookB l f = lookB m f := by unfold lookB; simp only [compB_c h]
    have h2 : allB l f = allB m f := by unfold allB; simp only [compB_c h]
    rw [rolesGo, rolesGo, rolesGo_c t fs, changeB_c h, h1, h2]
theorem rolesS_c (t : TDef) : rolesS l t = rolesS m t := by
  unfold rolesS
  rw [rolesGo_c h]
end
theorem fold_iff (f r : Flt) : (if !eqI f.1 0 then f else r).1 = 0 ↔ f.1 = 0 ∧ r.1 = 0 := by
  refine ⟨fold_zero, fun ⟨h1, h2⟩ => ?_⟩
  rw [if_neg (by rw [eqI_eq, h1]; simp)]
  exact h2
theorem check_iff (l : List TDef) : ∀ r : List TDef, (checkGo l r).1 = 0 ↔ ∀ t ∈ r, (checkS l t).1 = 0
  | [] => by simp [checkGo]
  | u :: r => by rw [checkGo, fold_iff, check_iff l r]; simp
theorem roles_iff (l : List TDef) : ∀ r : List TDef, (rolesLo l r).1 = 0 ↔ ∀ t ∈ r, (rolesS l t).1 = 0
  | [] => by simp [rolesLo]
  | u :: r => by rw [rolesLo, fold_iff, roles_iff l r]; simp
theorem build_iff (l : List TDef) : (buildS l).1 = 0 ↔ (declGo [] l).1 = 0 ∧ (∀ t ∈ l, (checkS l t).1 = 0) ∧ ((!(lk l queryN).isSome || !eqI ((lk l queryN).getD TDef.zero).k 1) = false) ∧ ∀ t ∈ l, (rolesS l t).1 = 0 := by
  unfold buildS behind
  rw [fold_iff, fold_iff, check_iff]
  by_cases hq : (!(lk l queryN).isSome || !eqI ((lk l queryN).getD TDef.zero).k 1) = true
  · rw [if_pos hq, hq]; simp
  · rw [if_neg hq, roles_iff]; simp only [Bool.not_eq_true] at hq; rw [hq]; simp
theorem decl_perm {l m : List TDef} (hp : l.Perm m) : (declGo [] l).1 = 0 ↔ (declGo [] m).1 = 0 := by
  rw [decl_iff, decl_iff, (hp.map _).nodup_iff]
  simp only [hp.mem_iff]
theorem build_perm1 {l m : List TDef} (hp : l.Perm m) (h : (buildS l).1 = 0) : (buildS m).1 = 0 ∧ lk l = lk m := by
  obtain ⟨h1, h2, h3, h4⟩ := (build_iff l).1 h
  have hl := lk_perm hp ((decl_iff _ _).1 h1).2
  refine ⟨(build_iff m).2 ⟨(decl_perm hp).1 h1, fun t ht => ?_, ?_, fun t ht => ?_⟩, hl⟩
  · rw [← checkS_c hl]; exact h2 t (hp.mem_iff.2 ht)
  · rw [← hl]; exact h3
  · rw [← rolesS_c hl]; exact h4 t (hp.mem_iff.2 ht)
theorem build_perm {l m : List TDef} (hp : l.Perm m) : (buildS l).1 = 0 ↔ (buildS m).1 = 0 :=
  ⟨fun h => (build_perm1 hp h).1, fun h => (build_perm1 hp.symm h).1⟩
theorem poss_perm {l m : List TDef} (hp : l.Perm m) (h : lk l = lk m) (n : List Nat) : (possS l n).Perm (possS m n) := by
  unfold possS
  rw [h]
  cases lk m n with
  | none => exact .refl _
  | some t =>
    dsimp only
    split
    · exact .refl _
    split
    · exact .refl _
    split
    · exact .refl _
    · exact ((hp.filter _).map _)
theorem hasN_mem {l : List (List Nat)} {n : List Nat} (h : n ∈ l) : hasN l n = true := by
  unfold hasN
  exact List.any_eq_true.2 ⟨n, h, eqN_refl _⟩
theorem poss_le {l : List TDef} (hl : l.length ≤ 3001) (hok : ∀ t ∈ l, t.OK) (n : List Nat) : (possS l n).length ≤ 3001 := by
  unfold possS
  cases h : lk l n with
  | none => simp
  | some t =>
    have ht := (hok t (List.mem_of_find?_eq_some h)).ln
    dsimp only
    split
    · simp
    split
    · omega
    split
    · simp
    · rw [List.length_map]
      have := List.length_filter_le (oneOf n) l
      omega
end Go.Cb.CodeA
/- What functions of the abstract machine answer. No conditions but those that each theorem names. -/
set_option maxRecDepth 20000
set_option linter.unusedSimpArgs false
set_option linter.unusedVariables false
namespace Go.Cb.CodeA
open Go Go.Cb
attribute [local congr] obind_congr gv_congr2 gv2_congr brT_congr seqK_congr blkK_congr m1_congr gm_congr

theorem has_s (l : List (List Nat)) (hl : l.length ≤ 3001) (s : List Nat) (st : St) : EvQ tbl 13 [.list false (l.map strRow), .str s] st (fun a st' => st' = st ∧ a = .bool (hasN l s)) := by
  refine EvQ.body (fn := a13) rfl rfl rfl ?_
  simp (contextual := true) (implicitDefEqProofs := false) only [K13, SS, Nat.reduceAdd, Nat.reduceSub, Nat.reduceLeDiff, Nat.reduceEqDiff, reduceCtorEq]
  refine WC.loopR (fun mm fr st' => st' = st ∧ ∃ (i : Nat), i ≤ l.length ∧ mm = l.length - i ∧ hasN (l.take i) s = false ∧ fr = [.list false (l.map strRow), .str s, .bool false, .int .i64 i]) (m := l.length) ⟨rfl, 0, Nat.zero_le _, rfl, rfl, rfl⟩ ?_
  rintro mm fr st' ⟨rfl, i, hi, rfl, hz, rfl⟩
  simp (contextual := true) (implicitDefEqProofs := false) only [K13, SS, Nat.reduceAdd, Nat.reduceSub, Nat.reduceLeDiff, Nat.reduceEqDiff, reduceCtorEq, List.length_map]
  by_cases hil : i < l.length
  rotate_left
  · simp (contextual := true) (implicitDefEqProofs := false) only [hil]
    refine WC.leave ?_
    simp (contextual := true) (implicitDefEqProofs := false) only [K13, SS, Nat.reduceAdd, Nat.reduceSub, Nat.reduceLeDiff, Nat.reduceEqDiff, reduceCtorEq]
    have : l.take i = l := List.take_of_length_le (by omega)
    rw [this] at hz
    exact WC.ret ⟨_, _, rfl, rfl, by rw [hz]; rfl⟩
  have e2 : (l.map strRow)[i]? = some (strRow l[i]) := by rw [List.getElem?_map, List.getElem?_eq_getElem hil]; rfl
  have e3 : hasN (l.take (i + 1)) s = (hasN (l.take i) s || eqN s l[i]) := by
    unfold hasN; rw [List.take_succ_eq_append_getElem hil, List.any_append, List.any_cons, List.any_nil, Bool.or_false]
  have hmem := List.getElem_mem hil
  revert e2 e3 hmem
  generalize l[i] = x
  intro e2 e3 hmem
  rw [strRow] at e2
  have hsym : eqN x s = eqN s x := by
    rcases bool_tf (eqN s x) with h | h
    · have := (eqN_iff _ _).1 h; rw [h, this, eqN_refl]
    · rw [h]; have := (eqN_false _ _).1 h; exact (eqN_false _ _).2 (fun e => this e.symm)
  simp (contextual := true) (implicitDefEqProofs := false) only [K13, SS, Nat.reduceAdd, Nat.reduceSub, Nat.reduceLeDiff, Nat.reduceEqDiff, reduceCtorEq, hil, e2]
  rcases bool_tf (eqN s x) with hx | hx
  · have hx' := hsym.trans hx
    simp (contextual := true) (implicitDefEqProofs := false) only [K13, SS, Nat.reduceAdd, Nat.reduceSub, Nat.reduceLeDiff, Nat.reduceEqDiff, reduceCtorEq, hx']
    refine WC.leaveR ?_
    simp (contextual := true) (implicitDefEqProofs := false) only [K13, SS, Nat.reduceAdd, Nat.reduceSub, Nat.reduceLeDiff, Nat.reduceEqDiff, reduceCtorEq]
    exact WC.ret ⟨_, _, rfl, rfl, by rw [hasN_mem (by rw [(eqN_iff _ _).1 hx]; exact hmem)]; rfl⟩
  · have hx' := hsym.trans hx
    simp (contextual := true) (implicitDefEqProofs := false) only [K13, SS, Nat.reduceAdd, Nat.reduceSub, Nat.reduceLeDiff, Nat.reduceEqDiff, reduceCtorEq, hx', inc64 (show i + 1 < 2 ^ 63 by omega)]
    exact WC.next (m' := l.length - (i + 1)) (by omega) ⟨rfl, i + 1, hil, rfl, by rw [e3, hz, hx]; rfl, rfl⟩

theorem build_out {l : List TDef} {st : St} {a : AV} {st' : St} (h : BuildA l st a st') : Gr st st' ∧ ∃ p n f, a = .tuple [p, .str n, .int .i64 f] ∧ f = (buildS l).1 ∧ p.weak = p ∧ p.stripB = p ∧ p.strip = p ∧ (f = 0 → ∃ so, p = .ptr so 0 ∧ Sch l so st') := by
  obtain ⟨hg, ⟨h0, so, hs, rfl⟩ | ⟨h0, rfl⟩⟩ := h
  · exact ⟨hg, _, _, _, rfl, h0.symm, rfl, rfl, rfl, fun _ => ⟨so, rfl, hs⟩⟩
  · exact ⟨hg, _, _, _, rfl, rfl, rfl, rfl, rfl, fun h => absurd h h0⟩
theorem order_law {st1 : St} (a1 : Ev tbl 8 [] [] (.bool true) st1) (s : List Nat) (kn : Nat) (hk : kn < 256) : EvQ tbl 4 [.str s, .int .u8 (kn : Int)] [] (fun a _ => a = .bool true) := by
  have e1 : EvQ tbl 8 [] [] (fun a st' => st' = st1 ∧ a = .bool true) := ⟨_, _, a1, rfl, rfl⟩
  refine EvQ.body (fn := a4) rfl rfl rfl ?_
  simp (contextual := true) (implicitDefEqProofs := false) only [K4, SS, Nat.reduceAdd, Nat.reduceSub, Nat.reduceLeDiff, Nat.reduceEqDiff, reduceCtorEq]
  refine WC.call e1 rfl rfl ?_
  rintro _ st ⟨rfl, rfl⟩
  simp (contextual := true) (implicitDefEqProofs := false) only [K4, SS, Nat.reduceAdd, Nat.reduceSub, Nat.reduceLeDiff, Nat.reduceEqDiff, reduceCtorEq]
  refine WC.call (types_q s st) rfl rfl ?_
  rintro _ st ⟨l, at', e, rfl, hl, hok, hne, hnil⟩
  simp (contextual := true) (implicitDefEqProofs := false) only [K4, SS, Nat.reduceAdd, Nat.reduceSub, Nat.reduceLeDiff, Nat.reduceEqDiff, reduceCtorEq]
  refine WC.br (fun he => ?_) (fun he => ?_)
  · simp (contextual := true) (implicitDefEqProofs := false) only [K4, SS, Nat.reduceAdd, Nat.reduceSub, Nat.reduceLeDiff, Nat.reduceEqDiff, reduceCtorEq]
    exact WC.ret ⟨_, _, rfl, rfl⟩
  have he : e = 0 := by rw [eqI_eq] at he; simpa using he
  have hpos : 0 < l.length := List.length_pos_iff.2 (hne he)
  have hmod : ((kn : Int)).tmod (l.length : Int) = ((kn % l.length : Nat) : Int) := rfl
  have hlt : kn % l.length < l.length := Nat.mod_lt _ hpos
  have hlz : ¬ ((l.length : Int) = 0) := by omega
  have w1 : wrapA .i64 (kn : Int) = (kn : Int) := wrap64 (by omega) (by omega)
  generalize hi : kn % l.length = i at hmod hlt
  have hile : i ≤ l.length := by omega
  have t1 : List.take l.length (l.map TDef.row) = l.map TDef.row := List.take_of_length_le (by simp)
  have t2 : List.drop i (l.map TDef.row) = (l.drop i).map TDef.row := List.map_drop.symm
  have t3 : List.take i (l.map TDef.row) = (l.take i).map TDef.row := List.map_take.symm
  have hperm : l.Perm (l.drop i ++ l.take i) := (List.perm_append_comm.trans (by rw [List.take_append_drop])).symm
  have hpl := hperm.length_eq
  have d1 : (l.drop i).length = l.length - i := List.length_drop ..
  have d2 : (l.take i).length = i := by rw [List.length_take]; omega
  simp (contextual := true) (implicitDefEqProofs := false) only [K4, SS, Nat.reduceAdd, Nat.reduceSub, Nat.reduceLeDiff, Nat.reduceEqDiff, reduceCtorEq, w1, hlz, hmod, List.length_map, rowsT, hile, t1, t2, t3, Option.map_some, d1, d2, List.drop_zero, show (0 + (l.length - i)) * 72 ≤ 2 ^ 47 by omega, show ((l.length - i)) * 72 ≤ 2 ^ 47 by omega, show (l.length - i + i) * 72 ≤ 2 ^ 47 by omega]
  refine WC.call (build_s l (by omega) hok st) rfl rfl ?_
  rintro a st2 ha
  obtain ⟨hg, p, n, f, rfl, hf, hp1, hp2, hp3, hp4⟩ := build_out ha
  rw [← List.map_append]
  revert hperm hpl
  generalize l.drop i ++ l.take i = m
  intro hperm hpl
  have hokm : ∀ t ∈ m, t.OK := fun t ht => hok t (hperm.mem_iff.2 ht)
  simp (contextual := true) (implicitDefEqProofs := false) only [K4, SS, Nat.reduceAdd, Nat.reduceSub, Nat.reduceLeDiff, Nat.reduceEqDiff, reduceCtorEq, hp1, hp2, hp3]
  refine WC.call (build_s m (by omega) hokm st2) rfl rfl ?_
  rintro a st3 ha
  obtain ⟨hg', q, n', g, rfl, hgq, hq1, hq2, hq3, hq4⟩ := build_out ha
  have hfg : (f = 0 ↔ g = 0) := by rw [hf, hgq]; exact build_perm hperm
  have hfg' : eqI f 0 = eqI g 0 := by
    rw [eqI_eq, eqI_eq]
    by_cases h : f = 0
    · rw [h, hfg.1 h]
    · rw [beq_false_of_ne h, beq_false_of_ne (fun e => h (hfg.2 e))]
  rcases bool_tf (eqI g 0) with hb | hb
  rotate_left
  · rw [hb] at hfg'
    simp (contextual := true) (implicitDefEqProofs := false) only [K4, SS, Nat.reduceAdd, Nat.reduceSub, Nat.reduceLeDiff, Nat.reduceEqDiff, reduceCtorEq, hp1, hp2, hp3, hq1, hq2, hq3, hfg', hb, show (!(false == false)) = false from rfl]
    refine WC.loopR (fun mm fr st' => fr = [.str s, .int .u8 (kn : Int), .bool false, .list false (l.map TDef.row), .int .i64 e, .list true (m.map TDef.row), .int .i64 i, p, .int .i64 f, q, .int .i64 g, .int .i64 0, .undef, .undef, .undef]) (m := 0) rfl ?_
    rintro mm fr st' rfl
    simp (contextual := true) (implicitDefEqProofs := false) only [K4, SS, Nat.reduceAdd, Nat.reduceSub, Nat.reduceLeDiff, Nat.reduceEqDiff, reduceCtorEq, hfg', hb, List.length_map]
    refine WC.leave ?_
    simp (contextual := true) (implicitDefEqProofs := false) only [K4, SS, Nat.reduceAdd, Nat.reduceSub, Nat.reduceLeDiff, Nat.reduceEqDiff, reduceCtorEq]
    exact WC.ret ⟨_, _, rfl, rfl⟩
  rw [hb] at hfg'
  have hf0 : f = 0 := (eqI_iff _ _).1 hfg'
  have hg0 : g = 0 := (eqI_iff _ _).1 hb
  obtain ⟨so, rfl, hS⟩ := hp4 hf0
  obtain ⟨so', rfl, hS'⟩ := hq4 hg0
  have hS := hS.gr hg'
  have hlk := (build_perm1 hperm (hf ▸ hf0)).2
  simp (contextual := true) (implicitDefEqProofs := false) only [K4, SS, Nat.reduceAdd, Nat.reduceSub, Nat.reduceLeDiff, Nat.reduceEqDiff, reduceCtorEq, hfg', hb, show (!(true == true)) = false from rfl]
  refine WC.loopR (fun mm fr st' => st' = st3 ∧ ∃ (j : Nat) (v12 v13 v14 : AV), j ≤ l.length ∧ mm = l.length - j ∧ fr = [.str s, .int .u8 (kn : Int), .bool false, .list false (l.map TDef.row), .int .i64 e, .list true (m.map TDef.row), .int .i64 i, .ptr so 0, .int .i64 f, .ptr so' 0, .int .i64 g, .int .i64 j, v12, v13, v14]) (m := l.length) ⟨rfl, 0, _, _, _, Nat.zero_le _, rfl, rfl⟩ ?_
  rintro mm fr st' ⟨rfl, j, v12, v13, v14, hj, rfl, rfl⟩
  by_cases hjl : j < l.length
  rotate_left
  · simp (contextual := true) (implicitDefEqProofs := false) only [K4, SS, Nat.reduceAdd, Nat.reduceSub, Nat.reduceLeDiff, Nat.reduceEqDiff, reduceCtorEq, List.length_map, hjl]
    refine WC.leave ?_
    simp (contextual := true) (implicitDefEqProofs := false) only [K4, SS, Nat.reduceAdd, Nat.reduceSub, Nat.reduceLeDiff, Nat.reduceEqDiff, reduceCtorEq]
    exact WC.ret ⟨_, _, rfl, rfl⟩
  have e2 : (l.map TDef.row)[j]? = some (l[j]).row := by rw [List.getElem?_map, List.getElem?_eq_getElem hjl]; rfl
  revert e2
  generalize l[j] = t
  intro e2
  rw [TDef.row] at e2
  simp (contextual := true) (implicitDefEqProofs := false) only [K4, SS, Nat.reduceAdd, Nat.reduceSub, Nat.reduceLeDiff, Nat.reduceEqDiff, reduceCtorEq, List.length_map, hjl, hfg', e2]
  refine WC.call (poss_s hS t.n) rfl rfl ?_
  rintro _ st ⟨rfl, rfl⟩
  simp (contextual := true) (implicitDefEqProofs := false) only [K4, SS, Nat.reduceAdd, Nat.reduceSub, Nat.reduceLeDiff, Nat.reduceEqDiff, reduceCtorEq, e2]
  refine WC.call (poss_s hS' t.n) rfl rfl ?_
  rintro _ st ⟨rfl, rfl⟩
  have hpp := poss_perm hperm hlk t.n
  have hpn := poss_le (by omega) hok t.n
  have hcc := compB_c hlk t.n
  have hplen := hpp.length_eq
  have hpm := fun x => hpp.mem_iff (a := x)
  revert hplen hpm hpn
  generalize possS l t.n = a
  generalize possS m t.n = b
  intro hpn hplen hpm
  have hd : decide (a.length = b.length) = true := decide_eq_true hplen
  simp (contextual := true) (implicitDefEqProofs := false) only [K4, SS, Nat.reduceAdd, Nat.reduceSub, Nat.reduceLeDiff, Nat.reduceEqDiff, reduceCtorEq, e2, List.length_map, hd, Bool.not_true]
  refine WC.call (comp_s hS t.n) rfl rfl ?_
  rintro _ st ⟨rfl, rfl⟩
  simp (contextual := true) (implicitDefEqProofs := false) only [K4, SS, Nat.reduceAdd, Nat.reduceSub, Nat.reduceLeDiff, Nat.reduceEqDiff, reduceCtorEq, e2, List.length_map, hd, Bool.not_true]
  refine WC.call (comp_s hS' t.n) rfl rfl ?_
  rintro _ st ⟨rfl, rfl⟩
  rw [hcc]
  have hx : (!(compB m t.n == compB m t.n)) = false := by simp
  simp (contextual := true) (implicitDefEqProofs := false) only [K4, SS, Nat.reduceAdd, Nat.reduceSub, Nat.reduceLeDiff, Nat.reduceEqDiff, reduceCtorEq, e2, List.length_map, hd, Bool.not_true, hx]
  refine WC.loopR (fun mm fr st' => st' = st ∧ ∃ (k : Nat), k ≤ a.length ∧ mm = a.length - k ∧ fr = [.str s, .int .u8 (kn : Int), .bool false, .list false (l.map TDef.row), .int .i64 e, .list true (m.map TDef.row), .int .i64 i, .ptr so 0, .int .i64 f, .ptr so' 0, .int .i64 g, .int .i64 j, .list false (a.map strRow), .list false (b.map strRow), .int .i64 k]) (m := a.length) ⟨rfl, 0, Nat.zero_le _, rfl, rfl⟩ ?_
  rintro mm fr st' ⟨rfl, k, hk, rfl, rfl⟩
  by_cases hkl : k < a.length
  rotate_left
  · simp (contextual := true) (implicitDefEqProofs := false) only [K4, SS, Nat.reduceAdd, Nat.reduceSub, Nat.reduceLeDiff, Nat.reduceEqDiff, reduceCtorEq, List.length_map, hkl]
    refine WC.leave ?_
    simp (contextual := true) (implicitDefEqProofs := false) only [K4, SS, Nat.reduceAdd, Nat.reduceSub, Nat.reduceLeDiff, Nat.reduceEqDiff, reduceCtorEq, inc64 (show j + 1 < 2 ^ 63 by omega)]
    exact WC.next (m' := l.length - (j + 1)) (by omega) ⟨rfl, j + 1, _, _, _, hjl, rfl, rfl⟩
  have e3 : (a.map strRow)[k]? = some (strRow a[k]) := by rw [List.getElem?_map, List.getElem?_eq_getElem hkl]; rfl
  have hmem := List.getElem_mem hkl
  revert e3 hmem
  generalize a[k] = x
  intro e3 hmem
  rw [strRow] at e3
  simp (contextual := true) (implicitDefEqProofs := false) only [K4, SS, Nat.reduceAdd, Nat.reduceSub, Nat.reduceLeDiff, Nat.reduceEqDiff, reduceCtorEq, List.length_map, hkl, e3]
  refine WC.call (has_s b (by omega) x _) rfl rfl ?_
  rintro _ st ⟨rfl, rfl⟩
  rw [hasN_mem ((hpm x).1 hmem)]
  simp (contextual := true) (implicitDefEqProofs := false) only [K4, SS, Nat.reduceAdd, Nat.reduceSub, Nat.reduceLeDiff, Nat.reduceEqDiff, reduceCtorEq, inc64 (show k + 1 < 2 ^ 63 by omega)]
  exact WC.next (m' := a.length - (k + 1)) (by omega) ⟨rfl, k + 1, hkl, rfl, rfl⟩
end Go.Cb.CodeA
