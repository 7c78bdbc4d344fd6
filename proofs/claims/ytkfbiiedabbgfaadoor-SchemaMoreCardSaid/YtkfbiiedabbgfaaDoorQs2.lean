import Derived.Test.YtkfbiiedabbgfaaDoorQs1
import Derived.Test.YtkfbiiedabbgfaaDoorAwA
/- What functions of the abstract machine answer. No conditions but those that each theorem names. -/
set_option maxRecDepth 20000
set_option linter.unusedSimpArgs false
set_option linter.unusedVariables false
namespace Go.Cb.CodeA
open Go Go.Cb
open Nat (reduceAdd reduceSub reduceLeDiff reduceEqDiff)
attribute [local congr] obind_congr gv_congr2 gv2_congr brT_congr seqK_congr blkK_congr m1_congr gm_congr

mutual
def fieldS (l : List TDef) : FDef → Bool → Flt
  | .mk nm as t has v, inn =>
    if !(lk l t.baseN).isSome && !scalarB t.baseN then (6, t.baseN)
    else (if inn && !scalarB t.baseN && !kindB l t.baseN 4 then (8, t.baseN)
    else (if !inn && kindB l t.baseN 5 then (8, t.baseN)
    else (if rootB t.baseN then (8, t.baseN)
    else (if has && !fitsV l v t then (8, nm)
    else (if !eqI (twiceS (namesF as)).1 0 then twiceS (namesF as)
    else argsS l as)))))
def argsS (l : List TDef) : List FDef → Flt
  | [] => (0, [])
  | a :: as => if kindB l a.ty.baseN 5 then (if a.has then (8, a.name) else argsS l as) else (if !eqI (fieldS l a true).1 0 then fieldS l a true else argsS l as)
end
def FieldQ (l : List TDef) (so : Nat) (f : FDef) : Prop := ∀ (inn : Bool) (st : St), Sch l so st → EvQ tbl 51 [.ptr so 0, .agg f.row, .bool inn] st (fun a st' => Gr st st' ∧ a = fltA (fieldS l f inn))
def fieldQ (l : List TDef) (st : St) (f : FDef) (inn : Bool) (o : Out) : Prop := ∃ r st', finK [ResK.bx 4 true 2] (some o) = some (r, st') ∧ Gr st st' ∧ r = fltA (fieldS l f inn)
theorem fltA_cells (f : Flt) : fltA f = .agg [.int .i64 f.1, .str f.2] := rfl

theorem field_args {l : List TDef} {so : Nat} {nm : List Nat} {as : List FDef} {t : TRef} {has : Bool} {v : Val} {inn : Bool} (hl : as.length ≤ 3000) (ih : ∀ a ∈ as, FieldQ l so a) {st0 st : St} (h : Sch l so st) (hg : Gr st0 st)
    (hS : fieldS l (.mk nm as t has v) inn = if !eqI (twiceS (namesF as)).1 0 then twiceS (namesF as) else argsS l as) {v2 v5 v6 v7 v8 v9 v10 v11 v12 v13 v14 v15 : AV} {w0 : AV} {tn : List Nat} {txs : List (List AV)} {tb : Bool} {vk vn : Int} {vs : List Nat} {vx vy : List (List AV)} {fh : Bool} :
    WC (fun n => exec (callF tbl n) n ((a51s29.seq a51s34).seq ((a51s37.seq (ACode.blk 1 (a51s39.seq ((ACode.blk 2 (a51s41.seq (a51s43.seq (ACode.blk 3 a51s58)))).seq a51s64)).loop)).seq (a51s71.seq ACode.ret)))
      [.ptr so 0, w0, v2, .box [.str nm, .list false (as.map FDef.row), .str tn, .list false txs, .bool tb, .bool fh, .int .u8 vk, .int .i64 vn, .str vs, .list false vx, .list false vy], .box [.int .i64 0, .str []], v5, v6, v7, v8, v9, v10, v11, v12, v13, v14, v15] st) (fieldQ l st0 (.mk nm as t has v) inn) := by
  simp +contextual -implicitDefEqProofs only [K51, SS, reduceAdd,reduceSub,reduceLeDiff,reduceEqDiff,reduceCtorEq]
  refine WC.call (list_q as (by omega) _) rfl rfl ?_
  rintro _ _ ⟨rfl, rfl⟩
  simp +contextual -implicitDefEqProofs only [K51, SS, reduceAdd,reduceSub,reduceLeDiff,reduceEqDiff,reduceCtorEq]
  refine WC.call (twice_s (namesF as) (by simp [namesF]; omega) _) rfl rfl ?_
  rintro _ _ ⟨rfl, rfl⟩
  simp +contextual -implicitDefEqProofs only [K51, SS, reduceAdd,reduceSub,reduceLeDiff,reduceEqDiff,reduceCtorEq, fltA_cells]
  refine WC.br (fun hx => ?_) (fun hx => ?_)
  · rw [if_pos hx] at hS
    simp +contextual -implicitDefEqProofs only [K51, SS, reduceAdd,reduceSub,reduceLeDiff,reduceEqDiff,reduceCtorEq]
    exact WC.ret ⟨_, _, rfl, hg, by rw [hS]; rfl⟩
  rw [if_neg (by rw [hx]; decide)] at hS
  simp +contextual -implicitDefEqProofs only [K51, SS, reduceAdd,reduceSub,reduceLeDiff,reduceEqDiff,reduceCtorEq, List.length_map]
  rename_i st1
  refine WC.loopR (fun mm fr st' => Gr st1 st' ∧ ∃ (i : Nat) (v9 v10 v11 : AV), i ≤ as.length ∧ mm = as.length - i ∧ argsS l as = argsS l (as.drop i) ∧
    fr = [.ptr so 0, w0, v2, .box [.str nm, .list false (as.map FDef.row), .str tn, .list false txs, .bool tb, .bool fh, .int .u8 vk, .int .i64 vn, .str vs, .list false vx, .list false vy], .box [.int .i64 0, .str []], v5, v6, v7, .box [.int .i64 (twiceS (namesF as)).1, .str (twiceS (namesF as)).2], v9, v10, v11, v12, .list false (as.map FDef.row), .int .i64 as.length, .int .i64 i]) (m := as.length) ⟨Gr.refl _, 0, _, _, _, Nat.zero_le _, rfl, rfl, rfl⟩ ?_
  rintro mm fr st' ⟨hg', i, v9, v10, v11, hi, rfl, hgo, rfl⟩
  have hS' := h.gr hg'
  simp +contextual -implicitDefEqProofs only [K51, SS, reduceAdd,reduceSub,reduceLeDiff,reduceEqDiff,reduceCtorEq]
  by_cases hil : i < as.length
  · have e2 : (as.map FDef.row)[i]? = some (as[i]).row := by rw [List.getElem?_map, List.getElem?_eq_getElem hil]; rfl
    have iha := ih _ (List.getElem_mem hil)
    rw [List.drop_eq_getElem_cons hil, argsS] at hgo
    revert hgo e2 iha
    generalize as[i] = a
    intro hgo e2 iha
    obtain ⟨un, uxs, ub, wk, wn, ws, wx, wy, et, ev, ef⟩ := a.row_cells
    rw [ef] at e2
    have hb := base_q a.ty st'
    rw [et] at hb
    simp +contextual -implicitDefEqProofs only [K51, SS, reduceAdd,reduceSub,reduceLeDiff,reduceEqDiff,reduceCtorEq, hil, e2]
    refine WC.call hb rfl rfl ?_
    rintro _ _ ⟨rfl, rfl⟩
    simp +contextual -implicitDefEqProofs only [K51, SS, reduceAdd,reduceSub,reduceLeDiff,reduceEqDiff,reduceCtorEq]
    refine WC.call (input_s hS' _) rfl rfl ?_
    rintro _ _ ⟨rfl, rfl⟩
    simp +contextual -implicitDefEqProofs only [K51, SS, reduceAdd,reduceSub,reduceLeDiff,reduceEqDiff,reduceCtorEq]
    refine WC.br (fun hx => ?_) (fun hx => ?_)
    · rw [if_pos hx] at hgo
      simp +contextual -implicitDefEqProofs only [K51, SS, reduceAdd,reduceSub,reduceLeDiff,reduceEqDiff,reduceCtorEq]
      refine WC.br (fun hy => ?_) (fun hy => ?_)
      · rw [if_pos hy] at hgo
        simp +contextual -implicitDefEqProofs only [K51, SS, reduceAdd,reduceSub,reduceLeDiff,reduceEqDiff,reduceCtorEq]
        refine WC.leaveR ?_
        simp +contextual -implicitDefEqProofs only [K51, SS, reduceAdd,reduceSub,reduceLeDiff,reduceEqDiff,reduceCtorEq]
        exact WC.ret ⟨_, _, rfl, hg.trans hg', by rw [hS, hgo]; rfl⟩
      · rw [if_neg (by rw [hy]; decide)] at hgo
        simp +contextual -implicitDefEqProofs only [K51, SS, reduceAdd,reduceSub,reduceLeDiff,reduceEqDiff,reduceCtorEq, inc64 (show i + 1 < 2 ^ 63 by omega)]
        exact WC.next (m' := as.length - (i + 1)) (by omega) ⟨hg', i + 1, _, _, _, hil, rfl, hgo, rfl⟩
    · rw [if_neg (by rw [hx]; decide)] at hgo
      have i1 := iha true _ hS'
      rw [ef, fltA_cells] at i1
      simp +contextual -implicitDefEqProofs only [K51, SS, reduceAdd,reduceSub,reduceLeDiff,reduceEqDiff,reduceCtorEq]
      refine WC.call i1 rfl rfl ?_
      rintro _ st3 ⟨hg3, rfl⟩
      simp +contextual -implicitDefEqProofs only [K51, SS, reduceAdd,reduceSub,reduceLeDiff,reduceEqDiff,reduceCtorEq]
      refine WC.br (fun hy => ?_) (fun hy => ?_)
      · rw [if_pos hy] at hgo
        simp +contextual -implicitDefEqProofs only [K51, SS, reduceAdd,reduceSub,reduceLeDiff,reduceEqDiff,reduceCtorEq]
        refine WC.leaveR ?_
        simp +contextual -implicitDefEqProofs only [K51, SS, reduceAdd,reduceSub,reduceLeDiff,reduceEqDiff,reduceCtorEq]
        exact WC.ret ⟨_, _, rfl, (hg.trans hg').trans hg3, by rw [hS, hgo]; rfl⟩
      · rw [if_neg (by rw [hy]; decide)] at hgo
        simp +contextual -implicitDefEqProofs only [K51, SS, reduceAdd,reduceSub,reduceLeDiff,reduceEqDiff,reduceCtorEq, inc64 (show i + 1 < 2 ^ 63 by omega)]
        exact WC.next (m' := as.length - (i + 1)) (by omega) ⟨hg'.trans hg3, i + 1, _, _, _, hil, rfl, hgo, rfl⟩
  · rw [List.drop_of_length_le (by omega), argsS] at hgo
    simp +contextual -implicitDefEqProofs only [K51, SS, reduceAdd,reduceSub,reduceLeDiff,reduceEqDiff,reduceCtorEq, hil]
    refine WC.leave ?_
    simp +contextual -implicitDefEqProofs only [K51, SS, reduceAdd,reduceSub,reduceLeDiff,reduceEqDiff,reduceCtorEq]
    exact WC.ret ⟨_, _, rfl, hg.trans hg', by rw [hS, hgo]; rfl⟩

theorem field_s {l : List TDef} {so : Nat} {f : FDef} (hf : f.OK) : FieldQ l so f := by
  induction hf with
  | mk nm as t has v hv hl hok ih =>
    intro inn st h
    show EvQ tbl 51 _ st _
    obtain ⟨un, uxs, ub, et⟩ := t.row_cells
    obtain ⟨wk, wn, ws, wx, wy, ev⟩ := v.row_cells
    have ef := FDef.row_mk (n := nm) (as := as) (has := has) et ev
    have hb := base_q t st
    have hfit := fits_s (l := l) (so := so) hv t
    rw [et, ev] at hfit
    rw [et] at hb
    rw [ef]
    have hd := fieldS.eq_1 l inn nm as t has v
    refine EvQ.body (fn := a51) rfl rfl rfl ?_
    show WC _ (fieldQ l st (.mk nm as t has v) inn)
    simp +contextual -implicitDefEqProofs only [K51, SS, reduceAdd,reduceSub,reduceLeDiff,reduceEqDiff,reduceCtorEq]
    refine WC.call hb rfl rfl ?_
    rintro _ _ ⟨rfl, rfl⟩
    simp +contextual -implicitDefEqProofs only [K51, SS, reduceAdd,reduceSub,reduceLeDiff,reduceEqDiff,reduceCtorEq]
    refine WC.call (type_s h _) rfl rfl ?_
    rintro _ st ⟨rfl, rfl⟩
    revert hd
    generalize t.baseN = n
    intro hd
    revert hd
    unfold typeA
    generalize (lk l n).isSome = q
    generalize (lk l n).getD TDef.zero = dd
    intro hd
    have rest : ∀ {v6 v7 v12 : AV}, fieldS l (.mk nm as t has v) inn = (if has && !fitsV l v t then (8, nm) else (if !eqI (twiceS (namesF as)).1 0 then twiceS (namesF as) else argsS l as)) →
        WC (fun n' => exec (callF tbl n') n' ((ACode.blk 0 a51s23).seq ((a51s29.seq a51s34).seq ((a51s37.seq (ACode.blk 1 (a51s39.seq ((ACode.blk 2 (a51s41.seq (a51s43.seq (ACode.blk 3 a51s58)))).seq a51s64)).loop)).seq (a51s71.seq ACode.ret))))
          [.ptr so 0, .agg [.str nm, .list false (as.map FDef.row), .str un, .list false uxs, .bool ub, .bool has, .int .u8 wk, .int .i64 wn, .str ws, .list false wx, .list false wy], .bool inn, .box [.str nm, .list false (as.map FDef.row), .str un, .list false uxs, .bool ub, .bool has, .int .u8 wk, .int .i64 wn, .str ws, .list false wx, .list false wy], .box [.int .i64 0, .str []], .str n, v6, v7, .undef, .undef, .undef, .undef, v12, .undef, .undef, .undef] st) (fieldQ l st (.mk nm as t has v) inn) := by
      intro v6 v7 v12 hd
      cases has with
      | false =>
        simp only [Bool.false_and, Bool.false_eq_true, if_false] at hd
        have := field_args (l := l) (so := so) hl ih h (Gr.refl _) hd (w0 := .agg [.str nm, .list false (as.map FDef.row), .str un, .list false uxs, .bool ub, .bool false, .int .u8 wk, .int .i64 wn, .str ws, .list false wx, .list false wy]) (v2 := .bool inn) (v5 := .str n) (v6 := v6) (v7 := v7) (v8 := .undef) (v9 := .undef) (v10 := .undef) (v11 := .undef) (v12 := v12) (v13 := .undef) (v14 := .undef) (v15 := .undef) (tn := un) (txs := uxs) (tb := ub) (vk := wk) (vn := wn) (vs := ws) (vx := wx) (vy := wy) (fh := false)
        simp +contextual -implicitDefEqProofs only [K51, SS, reduceAdd,reduceSub,reduceLeDiff,reduceEqDiff,reduceCtorEq] at this ⊢
        exact this
      | true =>
        simp +contextual -implicitDefEqProofs only [K51, SS, reduceAdd,reduceSub,reduceLeDiff,reduceEqDiff,reduceCtorEq]
        refine WC.call (hfit _ h) rfl rfl ?_
        rintro _ st3 ⟨hg3, rfl⟩
        simp +contextual -implicitDefEqProofs only [K51, SS, reduceAdd,reduceSub,reduceLeDiff,reduceEqDiff,reduceCtorEq]
        refine WC.br (fun hx => ?_) (fun hx => ?_)
        · rw [Bool.true_and, if_pos hx] at hd
          simp +contextual -implicitDefEqProofs only [K51, SS, reduceAdd,reduceSub,reduceLeDiff,reduceEqDiff,reduceCtorEq]
          exact WC.ret ⟨_, _, rfl, hg3, by rw [hd]; rfl⟩
        · rw [Bool.true_and, if_neg (by rw [hx]; decide)] at hd
          have := field_args (l := l) (so := so) hl ih (h.gr hg3) hg3 hd (w0 := .agg [.str nm, .list false (as.map FDef.row), .str un, .list false uxs, .bool ub, .bool true, .int .u8 wk, .int .i64 wn, .str ws, .list false wx, .list false wy]) (v2 := .bool inn) (v5 := .str n) (v6 := v6) (v7 := v7) (v8 := .undef) (v9 := .undef) (v10 := .undef) (v11 := .undef) (v12 := v12) (v13 := .undef) (v14 := .undef) (v15 := .undef) (tn := un) (txs := uxs) (tb := ub) (vk := wk) (vn := wn) (vs := ws) (vx := wx) (vy := wy) (fh := true)
          simp +contextual -implicitDefEqProofs only [K51, SS, reduceAdd,reduceSub,reduceLeDiff,reduceEqDiff,reduceCtorEq] at this ⊢
          exact this
    have bad : ∀ {v6 v7 : AV}, fieldS l (.mk nm as t has v) inn = (8, n) → WC (fun n' => exec (callF tbl n') n' ((ACode.blk 0 a51s24).seq ((a51s29.seq a51s34).seq ((a51s37.seq (ACode.blk 1 (a51s39.seq ((ACode.blk 2 (a51s41.seq (a51s43.seq (ACode.blk 3 a51s58)))).seq a51s64)).loop)).seq (a51s71.seq ACode.ret))))
          [.ptr so 0, .agg [.str nm, .list false (as.map FDef.row), .str un, .list false uxs, .bool ub, .bool has, .int .u8 wk, .int .i64 wn, .str ws, .list false wx, .list false wy], .bool inn, .box [.str nm, .list false (as.map FDef.row), .str un, .list false uxs, .bool ub, .bool has, .int .u8 wk, .int .i64 wn, .str ws, .list false wx, .list false wy], .box [.int .i64 0, .str []], .str n, v6, v7, .undef, .undef, .undef, .undef, .bool true, .undef, .undef, .undef] st) (fieldQ l st (.mk nm as t has v) inn) := by
      intro v6 v7 hd
      simp +contextual -implicitDefEqProofs only [K51, SS, reduceAdd,reduceSub,reduceLeDiff,reduceEqDiff,reduceCtorEq]
      exact WC.ret ⟨_, _, rfl, Gr.refl _, by rw [hd]; rfl⟩
    have mid : ∀ {v6 v7 : AV}, fieldS l (.mk nm as t has v) inn = (if inn && !scalarB n && !kindB l n 4 then (8, n) else (if !inn && kindB l n 5 then (8, n) else (if rootB n then (8, n) else (if has && !fitsV l v t then (8, nm) else (if !eqI (twiceS (namesF as)).1 0 then twiceS (namesF as) else argsS l as))))) →
        WC (fun n' => exec (callF tbl n') n' ((ACode.blk 0 (a51s15.seq a51s24)).seq ((a51s29.seq a51s34).seq ((a51s37.seq (ACode.blk 1 (a51s39.seq ((ACode.blk 2 (a51s41.seq (a51s43.seq (ACode.blk 3 a51s58)))).seq a51s64)).loop)).seq (a51s71.seq ACode.ret))))
          [.ptr so 0, .agg [.str nm, .list false (as.map FDef.row), .str un, .list false uxs, .bool ub, .bool has, .int .u8 wk, .int .i64 wn, .str ws, .list false wx, .list false wy], .bool inn, .box [.str nm, .list false (as.map FDef.row), .str un, .list false uxs, .bool ub, .bool has, .int .u8 wk, .int .i64 wn, .str ws, .list false wx, .list false wy], .box [.int .i64 0, .str []], .str n, v6, v7, .undef, .undef, .undef, .undef, .undef, .undef, .undef, .undef] st) (fieldQ l st (.mk nm as t has v) inn) := by
      intro v6 v7 hd
      have tail : (if rootB n then (8, n) else (if has && !fitsV l v t then (8, nm) else (if !eqI (twiceS (namesF as)).1 0 then twiceS (namesF as) else argsS l as))) = fieldS l (.mk nm as t has v) inn → ∀ (v12 : AV), WC (fun n' => exec (callF tbl n') n' ((ACode.blk 0 (a51s13.seq a51s24)).seq ((a51s29.seq a51s34).seq ((a51s37.seq (ACode.blk 1 (a51s39.seq ((ACode.blk 2 (a51s41.seq (a51s43.seq (ACode.blk 3 a51s58)))).seq a51s64)).loop)).seq (a51s71.seq ACode.ret))))
          [.ptr so 0, .agg [.str nm, .list false (as.map FDef.row), .str un, .list false uxs, .bool ub, .bool has, .int .u8 wk, .int .i64 wn, .str ws, .list false wx, .list false wy], .bool inn, .box [.str nm, .list false (as.map FDef.row), .str un, .list false uxs, .bool ub, .bool has, .int .u8 wk, .int .i64 wn, .str ws, .list false wx, .list false wy], .box [.int .i64 0, .str []], .str n, v6, v7, .undef, .undef, .undef, .undef, v12, .undef, .undef, .undef] st) (fieldQ l st (.mk nm as t has v) inn) := by
        intro hd2 v12
        simp +contextual -implicitDefEqProofs only [K51, SS, reduceAdd,reduceSub,reduceLeDiff,reduceEqDiff,reduceCtorEq]
        refine WC.call (root_s n _) rfl rfl ?_
        rintro _ _ ⟨rfl, rfl⟩
        simp +contextual -implicitDefEqProofs only [K51, SS, reduceAdd,reduceSub,reduceLeDiff,reduceEqDiff,reduceCtorEq]
        refine WC.br (fun hx => ?_) (fun hx => ?_)
        · rw [if_pos hx] at hd2
          have := bad (v6 := v6) (v7 := v7) hd2.symm
          rw [hx]
          simp +contextual -implicitDefEqProofs only [K51, SS, reduceAdd,reduceSub,reduceLeDiff,reduceEqDiff,reduceCtorEq] at this ⊢
          exact this
        · rw [if_neg (by rw [hx]; decide)] at hd2
          have := rest (v6 := v6) (v7 := v7) (v12 := .bool false) hd2.symm
          rw [hx]
          simp +contextual -implicitDefEqProofs only [K51, SS, reduceAdd,reduceSub,reduceLeDiff,reduceEqDiff,reduceCtorEq] at this ⊢
          exact this
      cases inn with
      | true =>
        simp only [Bool.true_and, Bool.not_true, Bool.false_and, Bool.false_eq_true, if_false] at hd
        simp +contextual -implicitDefEqProofs only [K51, SS, reduceAdd,reduceSub,reduceLeDiff,reduceEqDiff,reduceCtorEq]
        refine WC.call (scalar_s so n _) rfl rfl ?_
        rintro _ _ ⟨rfl, rfl⟩
        cases hsc : scalarB n with
        | true =>
          simp only [hsc, Bool.not_true, Bool.false_and, Bool.false_eq_true, if_false] at hd
          have := tail hd.symm (.bool false)
          simp +contextual -implicitDefEqProofs only [K51, SS, reduceAdd,reduceSub,reduceLeDiff,reduceEqDiff,reduceCtorEq] at this ⊢
          exact this
        | false =>
          simp only [hsc, Bool.not_false, Bool.true_and] at hd
          simp +contextual -implicitDefEqProofs only [K51, SS, reduceAdd,reduceSub,reduceLeDiff,reduceEqDiff,reduceCtorEq]
          refine WC.call (enum_s h n) rfl rfl ?_
          rintro _ _ ⟨rfl, rfl⟩
          cases hen : kindB l n 4 with
          | true =>
            simp only [hen, Bool.not_true, Bool.false_eq_true, if_false] at hd
            have := tail hd.symm (.bool false)
            simp +contextual -implicitDefEqProofs only [K51, SS, reduceAdd,reduceSub,reduceLeDiff,reduceEqDiff,reduceCtorEq] at this ⊢
            exact this
          | false =>
            simp only [hen, Bool.not_false, if_true] at hd
            have := bad (v6 := v6) (v7 := v7) hd
            simp +contextual -implicitDefEqProofs only [K51, SS, reduceAdd,reduceSub,reduceLeDiff,reduceEqDiff,reduceCtorEq] at this ⊢
            exact this
      | false =>
        simp only [Bool.false_and, Bool.not_false, Bool.true_and, Bool.false_eq_true, if_false] at hd
        simp +contextual -implicitDefEqProofs only [K51, SS, reduceAdd,reduceSub,reduceLeDiff,reduceEqDiff,reduceCtorEq]
        refine WC.call (input_s h n) rfl rfl ?_
        rintro _ _ ⟨rfl, rfl⟩
        cases hen : kindB l n 5 with
        | true =>
          simp only [hen, if_true] at hd
          have := bad (v6 := v6) (v7 := v7) hd
          simp +contextual -implicitDefEqProofs only [K51, SS, reduceAdd,reduceSub,reduceLeDiff,reduceEqDiff,reduceCtorEq] at this ⊢
          exact this
        | false =>
          simp only [hen, Bool.false_eq_true, if_false] at hd
          have := tail hd.symm (.bool false)
          simp +contextual -implicitDefEqProofs only [K51, SS, reduceAdd,reduceSub,reduceLeDiff,reduceEqDiff,reduceCtorEq] at this ⊢
          exact this
    cases q with
    | false =>
      simp +contextual -implicitDefEqProofs only [K51, SS, reduceAdd,reduceSub,reduceLeDiff,reduceEqDiff,reduceCtorEq, TDef.row]
      refine WC.call (scalar_s so n _) rfl rfl ?_
      rintro _ _ ⟨rfl, rfl⟩
      simp +contextual -implicitDefEqProofs only [K51, SS, reduceAdd,reduceSub,reduceLeDiff,reduceEqDiff,reduceCtorEq]
      refine WC.br (fun hx => ?_) (fun hx => ?_)
      · rw [Bool.not_false, Bool.true_and, if_pos hx] at hd
        simp +contextual -implicitDefEqProofs only [K51, SS, reduceAdd,reduceSub,reduceLeDiff,reduceEqDiff,reduceCtorEq]
        exact WC.ret ⟨_, _, rfl, Gr.refl _, by rw [hd]; rfl⟩
      · rw [Bool.not_false, Bool.true_and, if_neg (by rw [hx]; decide)] at hd
        have := mid (v6 := .box [.int .u8 dd.k, .str dd.n, .list false (dd.fs.map FDef.row), .list false (dd.ns.map strRow)]) (v7 := .bool false) hd
        simp +contextual -implicitDefEqProofs only [K51, SS, reduceAdd,reduceSub,reduceLeDiff,reduceEqDiff,reduceCtorEq] at this ⊢
        exact this
    | true =>
      simp only [Bool.not_true, Bool.false_and, Bool.false_eq_true, if_false] at hd
      have := mid (v6 := .box [.int .u8 dd.k, .str dd.n, .list false (dd.fs.map FDef.row), .list false (dd.ns.map strRow)]) (v7 := .bool true) hd
      simp +contextual -implicitDefEqProofs only [K51, SS, reduceAdd,reduceSub,reduceLeDiff,reduceEqDiff,reduceCtorEq, TDef.row] at this ⊢
      exact this
end Go.Cb.CodeA
set_option maxRecDepth 20000
set_option linter.unusedSimpArgs false
set_option linter.unusedVariables false
namespace Go.Cb.CodeA
open Go Go.Cb
open Nat (reduceAdd reduceSub reduceLeDiff reduceEqDiff)
attribute [local congr] obind_congr gv_congr2 gv2_congr brT_congr seqK_congr blkK_congr m1_congr gm_congr

/-- lacks an object that field, or has it of another type? -/
def lacks (fs : List FDef) (f : FDef) : Bool := match fldAt fs f.name with
  | none => true
  | some g => !sameT g.ty f.ty
def implS (t u : TDef) : Bool := !(u.fs.any (lacks t.fs))
theorem lacks_s (t : TDef) (ht : t.OK) (f : FDef) (o : Nat) (st : St) (h : st[o]? = some (.cells t.row)) : EvQ tbl 66 [.agg f.row, .ptr o 0] st (fun a st' => Gr st st' ∧ a = .bool (lacks t.fs f)) := by
  have hl := ht.lf
  obtain ⟨tn, txs, tb, vk, vn, vs, vx, vy, et, ev, ef⟩ := f.row_cells
  rw [ef]
  rw [TDef.row] at h
  refine EvQ.body (fn := a66) rfl rfl rfl ?_
  simp +contextual -implicitDefEqProofs only [K66, SS, reduceAdd,reduceSub,reduceLeDiff,reduceEqDiff,reduceCtorEq, h]
  refine WC.call (list_q t.fs (by omega) _) rfl rfl ?_
  rintro _ _ ⟨rfl, rfl⟩
  simp +contextual -implicitDefEqProofs only [K66, SS, reduceAdd,reduceSub,reduceLeDiff,reduceEqDiff,reduceCtorEq]
  refine WC.call (index_q (namesF t.fs) (by simp [namesF]; omega) _ _) rfl rfl ?_
  rintro _ _ ⟨rfl, rfl⟩
  rcases idx_fld f.name t.fs with ⟨f1, f2⟩ | ⟨j, g, f1, f2, f3⟩
  · simp +contextual -implicitDefEqProofs only [K66, SS, reduceAdd,reduceSub,reduceLeDiff,reduceEqDiff,reduceCtorEq, f2, ltI_neg1]
    exact WC.ret ⟨_, _, rfl, Gr.refl _, by simp only [lacks, f1]; rfl⟩
  · have f4 : (t.fs.map FDef.row)[j]? = some g.row := by rw [List.getElem?_map, f3]; rfl
    obtain ⟨un, uxs, ub, wk, wn, ws, wx, wy, gt, gv', gf⟩ := g.row_cells
    rw [gf] at f4
    have hs := same_q g.ty f.ty
    rw [gt, et] at hs
    simp +contextual -implicitDefEqProofs only [K66, SS, reduceAdd,reduceSub,reduceLeDiff,reduceEqDiff,reduceCtorEq, f2, ltI_nat0, h, f4]
    refine WC.call (hs _) rfl rfl ?_
    rintro _ _ ⟨rfl, rfl⟩
    simp +contextual -implicitDefEqProofs only [K66, SS, reduceAdd,reduceSub,reduceLeDiff,reduceEqDiff,reduceCtorEq]
    exact WC.ret ⟨_, _, rfl, Gr.refl _, by simp only [lacks, f1]; rfl⟩
theorem impl_s (so : Nat) (t u : TDef) (ht : t.OK) (hu : u.OK) (st : St) : EvQ tbl 52 [.ptr so 0, .agg t.row, .agg u.row] st (fun a st' => Gr st st' ∧ a = .bool (implS t u)) := by
  have hl := hu.lf
  obtain ⟨hg, h3⟩ := one_more st (.cells t.row)
  have hc := containsF_s 66 [.ptr st.length 0] rfl (lacks t.fs) u.fs (by omega) (st ++ [.cells t.row]) (fun f _ st2 hg2 => lacks_s t ht f st.length st2 (hg2 _ _ h3)) (st ++ [.cells t.row]) (Gr.refl _)
  rw [TDef.row] at hc hg
  rw [TDef.row, TDef.row]
  refine EvQ.body (fn := a52) rfl rfl rfl ?_
  simp +contextual -implicitDefEqProofs only [K52, SS, reduceAdd,reduceSub,reduceLeDiff,reduceEqDiff,reduceCtorEq]
  refine WC.call hc rfl rfl ?_
  rintro _ st' ⟨hg', rfl⟩
  simp +contextual -implicitDefEqProofs only [K52, SS, reduceAdd,reduceSub,reduceLeDiff,reduceEqDiff,reduceCtorEq]
  exact WC.ret ⟨_, _, rfl, hg.trans hg', rfl⟩

def fieldsGo (l : List TDef) (inn : Bool) : List FDef → Flt
  | [] => (0, [])
  | f :: fs => if !eqI (fieldS l f inn).1 0 then fieldS l f inn else fieldsGo l inn fs
def wantK (k : Int) : Int := if eqI k 1 then 2 else (if eqI k 3 then 1 else 0)
def namesGo (l : List TDef) (t : TDef) : List (List Nat) → Flt
  | [] => (0, [])
  | n :: ns => if eqI t.k 4 then namesGo l t ns
    else (if !(lk l n).isSome then (6, n)
    else (if !eqI ((lk l n).getD TDef.zero).k (wantK t.k) || rootB n then (8, n)
    else (if eqI t.k 1 && !implS t ((lk l n).getD TDef.zero) then (3, n) else namesGo l t ns)))
def checkS (l : List TDef) (t : TDef) : Flt :=
  if !eqI (twiceS (namesF t.fs ++ t.ns)).1 0 && !eqI t.k 1 then twiceS (namesF t.fs ++ t.ns)
  else (if !eqI (twiceS (namesF t.fs)).1 0 then twiceS (namesF t.fs)
  else (if !eqI (twiceS t.ns).1 0 then twiceS t.ns
  else (if !eqI (fieldsGo l (eqI t.k 5) t.fs).1 0 then fieldsGo l (eqI t.k 5) t.fs
  else namesGo l t t.ns)))

def checkQ (l : List TDef) (st : St) (t : TDef) (o : Out) : Prop := ∃ r st', finK [ResK.bx 3 true 2] (some o) = some (r, st') ∧ Gr st st' ∧ r = fltA (checkS l t)
theorem want_r (k : Int) (nn : List Nat) (fs ns : List (List AV)) (v0 v1 v3 v4 v5 v6 v7 v8 v9 v10 v11 v12 v13 v14 v15 v16 v17 v18 : AV) (st : St) : ∃ st', Gr st st' ∧ ∀ (call : CallT) (n : Nat),
    exec call n a31s50 [v0, v1, .box [.int .u8 k, .str nn, .list false fs, .list false ns], v3, v4, v5, v6, v7, v8, v9, v10, v11, v12, v13, v14, v15, v16, v17, v18] st =
    some (.normal, [v0, v1, .box [.int .u8 k, .str nn, .list false fs, .list false ns], v3, v4, v5, v6, v7, v8, .int .u8 (wantK k), v10, v11, v12, v13, v14, v15, v16, v17, v18], st') := by
  refine ⟨st ++ [.map [(.int .u8 1, .int .u8 2), (.int .u8 3, .int .u8 1)]], Gr.app _ _, fun call n => ?_⟩
  have e1 : ∀ x : Obj, (st ++ [x])[st.length]? = some x := fun x => by simp
  have e2 : ∀ x y : Obj, (st ++ [x]).set st.length y = st ++ [y] := fun x y => by simp
  unfold wantK
  rcases bool_tf (eqI k 1) with h1 | h1
  · simp +contextual -implicitDefEqProofs only [K31, SS, reduceAdd,reduceSub,reduceLeDiff,reduceEqDiff,reduceCtorEq, semMset, semMget, e1, e2, mfind, eqKey, h1, show eqI 3 1 = false from rfl, Option.bind_some, Option.isSome_some]
  · rcases bool_tf (eqI k 3) with h2 | h2
    · simp +contextual -implicitDefEqProofs only [K31, SS, reduceAdd,reduceSub,reduceLeDiff,reduceEqDiff,reduceCtorEq, semMset, semMget, e1, e2, mfind, eqKey, h1, h2, show eqI 3 1 = false from rfl, Option.bind_some, Option.isSome_some]
    · simp +contextual -implicitDefEqProofs only [K31, SS, reduceAdd,reduceSub,reduceLeDiff,reduceEqDiff,reduceCtorEq, semMset, semMget, e1, e2, mfind, eqKey, h1, h2, show eqI 3 1 = false from rfl, Option.bind_some, Option.isSome_none]
theorem check_names {l : List TDef} {so : Nat} {t : TDef} (ht : t.OK) {st0 st : St} (h : Sch l so st) (hg : Gr st0 st) (hS : checkS l t = namesGo l t t.ns) {v1 v4 v5 v6 v7 v8 v9 v10 v11 v12 v13 v14 v15 v16 v17 v18 : AV} :
    WC (fun n => exec (callF tbl n) n (a31s50.seq ((a31s52.seq (ACode.blk 2 (a31s54.seq ((ACode.blk 3 (a31s56.seq (a31s58.seq (ACode.blk 4 a31s75)))).seq a31s81)).loop)).seq (a31s88.seq ACode.ret)))
      [.ptr so 0, v1, .box [.int .u8 t.k, .str t.n, .list false (t.fs.map FDef.row), .list false (t.ns.map strRow)], .box [.int .i64 0, .str []], v4, v5, v6, v7, v8, v9, v10, v11, v12, v13, v14, v15, v16, v17, v18] st) (checkQ l st0 t) := by
  have hln := ht.ln
  obtain ⟨st1, hg1, he⟩ := want_r t.k t.n (t.fs.map FDef.row) (t.ns.map strRow) (.ptr so 0) v1 (.box [.int .i64 0, .str []]) v4 v5 v6 v7 v8 v9 v10 v11 v12 v13 v14 v15 v16 v17 v18 st
  simp only [exec_seqK, he, seqK_normal]
  have h1 := h.gr hg1
  simp +contextual -implicitDefEqProofs only [K31, SS, reduceAdd,reduceSub,reduceLeDiff,reduceEqDiff,reduceCtorEq, List.length_map]
  refine WC.loopR (fun mm fr st' => Gr st1 st' ∧ ∃ (i : Nat) (v10 v11 v12 : AV), i ≤ t.ns.length ∧ mm = t.ns.length - i ∧ namesGo l t t.ns = namesGo l t (t.ns.drop i) ∧
    fr = [.ptr so 0, v1, .box [.int .u8 t.k, .str t.n, .list false (t.fs.map FDef.row), .list false (t.ns.map strRow)], .box [.int .i64 0, .str []], v4, v5, v6, v7, v8, .int .u8 (wantK t.k), v10, v11, v12, v13, v14, v15, .list false (t.ns.map strRow), .int .i64 t.ns.length, .int .i64 i]) (m := t.ns.length) ⟨Gr.refl _, 0, _, _, _, Nat.zero_le _, rfl, rfl, rfl⟩ ?_
  rintro mm fr st' ⟨hg', i, v10, v11, v12, hi, rfl, hgo, rfl⟩
  have hS' := h1.gr hg'
  have hgg := (hg.trans hg1).trans hg'
  simp +contextual -implicitDefEqProofs only [K31, SS, reduceAdd,reduceSub,reduceLeDiff,reduceEqDiff,reduceCtorEq]
  by_cases hil : i < t.ns.length
  · have e2 : (t.ns.map strRow)[i]? = some (strRow t.ns[i]) := by rw [List.getElem?_map, List.getElem?_eq_getElem hil]; rfl
    rw [List.drop_eq_getElem_cons hil, namesGo] at hgo
    revert hgo e2
    generalize t.ns[i] = x
    intro hgo e2
    have hd := lk_ok hS' x
    have i1 := inc64 (show i + 1 < 2 ^ 63 by omega)
    simp +contextual -implicitDefEqProofs only [K31, SS, reduceAdd,reduceSub,reduceLeDiff,reduceEqDiff,reduceCtorEq, hil, e2, strRow]
    refine WC.call (type_s hS' x) rfl rfl ?_
    rintro _ st' ⟨rfl, rfl⟩
    revert hgo hd
    unfold typeA
    generalize (lk l x).isSome = q
    generalize (lk l x).getD TDef.zero = d
    intro hgo hd
    have hdr := d.row
    simp +contextual -implicitDefEqProofs only [K31, SS, reduceAdd,reduceSub,reduceLeDiff,reduceEqDiff,reduceCtorEq, TDef.row]
    refine WC.br (fun hx => ?_) (fun hx => ?_)
    · rw [if_pos hx] at hgo
      simp +contextual -implicitDefEqProofs only [K31, SS, reduceAdd,reduceSub,reduceLeDiff,reduceEqDiff,reduceCtorEq, i1]
      exact WC.next (m' := t.ns.length - (i + 1)) (by omega) ⟨hg', i + 1, _, _, _, hil, rfl, hgo, rfl⟩
    rw [if_neg (by rw [hx]; decide)] at hgo
    cases q with
    | false =>
      rw [if_pos (show (!false) = true from rfl)] at hgo
      simp +contextual -implicitDefEqProofs only [K31, SS, reduceAdd,reduceSub,reduceLeDiff,reduceEqDiff,reduceCtorEq]
      refine WC.leaveR ?_
      simp +contextual -implicitDefEqProofs only [K31, SS, reduceAdd,reduceSub,reduceLeDiff,reduceEqDiff,reduceCtorEq]
      exact WC.ret ⟨_, _, rfl, hgg, by rw [hS, hgo]; rfl⟩
    | true =>
    rw [if_neg (show ¬ (!true) = true by decide)] at hgo
    have bad8 : namesGo l t t.ns = (8, x) → WC (fun n => exec (callF tbl n) n ((ACode.blk 3 (ACode.blk 4 a31s67)).seq a31s81) [.ptr so 0, v1, .box [.int .u8 t.k, .str t.n, .list false (t.fs.map FDef.row), .list false (t.ns.map strRow)], .box [.int .i64 0, .str []], v4, v5, v6, v7, v8, .int .u8 (wantK t.k), .str x, .box [.int .u8 d.k, .str d.n, .list false (d.fs.map FDef.row), .list false (d.ns.map strRow)], .bool true, v13, v14, v15, .list false (t.ns.map strRow), .int .i64 t.ns.length, .int .i64 i] st')
        (LQ (fun mm fr st' => Gr st1 st' ∧ ∃ (i : Nat) (v10 v11 v12 : AV), i ≤ t.ns.length ∧ mm = t.ns.length - i ∧ namesGo l t t.ns = namesGo l t (t.ns.drop i) ∧
    fr = [.ptr so 0, v1, .box [.int .u8 t.k, .str t.n, .list false (t.fs.map FDef.row), .list false (t.ns.map strRow)], .box [.int .i64 0, .str []], v4, v5, v6, v7, v8, .int .u8 (wantK t.k), v10, v11, v12, v13, v14, v15, .list false (t.ns.map strRow), .int .i64 t.ns.length, .int .i64 i]) (t.ns.length - i) (fun n => seqC (blkC 2 some) (exec (callF tbl n) n (a31s88.seq ACode.ret))) (checkQ l st0 t)) := by
      intro hgo
      simp +contextual -implicitDefEqProofs only [K31, SS, reduceAdd,reduceSub,reduceLeDiff,reduceEqDiff,reduceCtorEq]
      refine WC.leaveR ?_
      simp +contextual -implicitDefEqProofs only [K31, SS, reduceAdd,reduceSub,reduceLeDiff,reduceEqDiff,reduceCtorEq]
      exact WC.ret ⟨_, _, rfl, hgg, by rw [hS, hgo]; rfl⟩
    have good : (if eqI t.k 1 && !implS t d then (3, x) else namesGo l t (t.ns.drop (i + 1))) = namesGo l t t.ns → WC (fun n => exec (callF tbl n) n ((ACode.blk 3 (ACode.blk 4 a31s72)).seq a31s81) [.ptr so 0, v1, .box [.int .u8 t.k, .str t.n, .list false (t.fs.map FDef.row), .list false (t.ns.map strRow)], .box [.int .i64 0, .str []], v4, v5, v6, v7, v8, .int .u8 (wantK t.k), .str x, .box [.int .u8 d.k, .str d.n, .list false (d.fs.map FDef.row), .list false (d.ns.map strRow)], .bool true, v13, v14, v15, .list false (t.ns.map strRow), .int .i64 t.ns.length, .int .i64 i] st')
        (LQ (fun mm fr st' => Gr st1 st' ∧ ∃ (i : Nat) (v10 v11 v12 : AV), i ≤ t.ns.length ∧ mm = t.ns.length - i ∧ namesGo l t t.ns = namesGo l t (t.ns.drop i) ∧
    fr = [.ptr so 0, v1, .box [.int .u8 t.k, .str t.n, .list false (t.fs.map FDef.row), .list false (t.ns.map strRow)], .box [.int .i64 0, .str []], v4, v5, v6, v7, v8, .int .u8 (wantK t.k), v10, v11, v12, v13, v14, v15, .list false (t.ns.map strRow), .int .i64 t.ns.length, .int .i64 i]) (t.ns.length - i) (fun n => seqC (blkC 2 some) (exec (callF tbl n) n (a31s88.seq ACode.ret))) (checkQ l st0 t)) := by
      intro hgo
      cases hk1 : eqI t.k 1 with
      | true =>
        have im := impl_s so t d ht hd st'
        rw [TDef.row, TDef.row] at im
        simp +contextual -implicitDefEqProofs only [K31, SS, reduceAdd,reduceSub,reduceLeDiff,reduceEqDiff,reduceCtorEq, hk1]
        refine WC.call im rfl rfl ?_
        rintro _ st3 ⟨hg3, rfl⟩
        simp +contextual -implicitDefEqProofs only [K31, SS, reduceAdd,reduceSub,reduceLeDiff,reduceEqDiff,reduceCtorEq]
        refine WC.br (fun hy => ?_) (fun hy => ?_)
        · rw [hk1, Bool.true_and, if_pos hy] at hgo
          simp +contextual -implicitDefEqProofs only [K31, SS, reduceAdd,reduceSub,reduceLeDiff,reduceEqDiff,reduceCtorEq]
          refine WC.leaveR ?_
          simp +contextual -implicitDefEqProofs only [K31, SS, reduceAdd,reduceSub,reduceLeDiff,reduceEqDiff,reduceCtorEq]
          exact WC.ret ⟨_, _, rfl, hgg.trans hg3, by rw [hS, ← hgo]; rfl⟩
        · rw [hk1, Bool.true_and, if_neg (by rw [hy]; decide)] at hgo
          simp +contextual -implicitDefEqProofs only [K31, SS, reduceAdd,reduceSub,reduceLeDiff,reduceEqDiff,reduceCtorEq, i1]
          exact WC.next (m' := t.ns.length - (i + 1)) (by omega) ⟨hg'.trans hg3, i + 1, _, _, _, hil, rfl, hgo.symm, rfl⟩
      | false =>
        rw [hk1, Bool.false_and, if_neg (by decide)] at hgo
        simp +contextual -implicitDefEqProofs only [K31, SS, reduceAdd,reduceSub,reduceLeDiff,reduceEqDiff,reduceCtorEq, hk1, i1]
        exact WC.next (m' := t.ns.length - (i + 1)) (by omega) ⟨hg', i + 1, _, _, _, hil, rfl, hgo.symm, rfl⟩
    simp +contextual -implicitDefEqProofs only [K31, SS, reduceAdd,reduceSub,reduceLeDiff,reduceEqDiff,reduceCtorEq]
    refine WC.g2 (fun hy => ?_) (fun hy => ?_)
    · simp +contextual -implicitDefEqProofs only [K31, SS, reduceAdd,reduceSub,reduceLeDiff,reduceEqDiff,reduceCtorEq, hy]
      refine WC.call (root_s x _) rfl rfl ?_
      rintro _ _ ⟨rfl, rfl⟩
      simp +contextual -implicitDefEqProofs only [K31, SS, reduceAdd,reduceSub,reduceLeDiff,reduceEqDiff,reduceCtorEq, hy]
      refine WC.br (fun hr => ?_) (fun hr => ?_)
      · have := bad8 (by rw [hgo, if_pos (by rw [hr]; simp)])
        simp +contextual -implicitDefEqProofs only [K31, SS, reduceAdd,reduceSub,reduceLeDiff,reduceEqDiff,reduceCtorEq] at this ⊢
        exact this
      · have := good (by rw [hgo, hr, hy]; rfl)
        simp +contextual -implicitDefEqProofs only [K31, SS, reduceAdd,reduceSub,reduceLeDiff,reduceEqDiff,reduceCtorEq] at this ⊢
        exact this
    · have hy : (!eqI d.k (wantK t.k)) = true := hy
      have := bad8 (by rw [hgo, if_pos (by rw [hy]; rfl)])
      simp +contextual -implicitDefEqProofs only [K31, SS, reduceAdd,reduceSub,reduceLeDiff,reduceEqDiff,reduceCtorEq, hy] at this ⊢
      exact this
  · rw [List.drop_of_length_le (by omega), namesGo] at hgo
    simp +contextual -implicitDefEqProofs only [K31, SS, reduceAdd,reduceSub,reduceLeDiff,reduceEqDiff,reduceCtorEq, hil]
    refine WC.leave ?_
    simp +contextual -implicitDefEqProofs only [K31, SS, reduceAdd,reduceSub,reduceLeDiff,reduceEqDiff,reduceCtorEq]
    exact WC.ret ⟨_, _, rfl, hgg, by rw [hS, hgo]; rfl⟩
end Go.Cb.CodeA
/- What functions of the abstract machine answer. No conditions but those that each theorem names. -/
set_option maxRecDepth 20000
set_option linter.unusedSimpArgs false
set_option linter.unusedVariables false
namespace Go.Cb.CodeA
open Go Go.Cb
open Nat (reduceAdd reduceSub reduceLeDiff reduceEqDiff)
attribute [local congr] obind_congr gv_congr2 gv2_congr brT_congr seqK_congr blkK_congr m1_congr gm_congr

theorem check_fields {l : List TDef} {so : Nat} {t : TDef} (ht : t.OK) {st0 st : St} (h : Sch l so st) (hg : Gr st0 st) (hS : checkS l t = if !eqI (fieldsGo l (eqI t.k 5) t.fs).1 0 then fieldsGo l (eqI t.k 5) t.fs else namesGo l t t.ns) {v1 v4 v5 v6 v7 v8 v9 v10 v11 v12 v13 v14 v15 v16 v17 v18 : AV} :
    WC (fun n => exec (callF tbl n) n ((a31s27.seq (ACode.blk 0 (a31s29.seq ((ACode.blk 1 (a31s31.seq (a31s33.seq a31s38))).seq a31s43)).loop)).seq (a31s50.seq ((a31s52.seq (ACode.blk 2 (a31s54.seq ((ACode.blk 3 (a31s56.seq (a31s58.seq (ACode.blk 4 a31s75)))).seq a31s81)).loop)).seq (a31s88.seq ACode.ret))))
      [.ptr so 0, v1, .box [.int .u8 t.k, .str t.n, .list false (t.fs.map FDef.row), .list false (t.ns.map strRow)], .box [.int .i64 0, .str []], v4, v5, v6, v7, v8, v9, v10, v11, v12, v13, v14, v15, v16, v17, v18] st) (checkQ l st0 t) := by
  have hlf := ht.lf
  simp +contextual -implicitDefEqProofs only [K31, SS, reduceAdd,reduceSub,reduceLeDiff,reduceEqDiff,reduceCtorEq, List.length_map]
  refine WC.loopR (fun mm fr st' => Gr st st' ∧ ∃ (i : Nat) (v7 v8 : AV), i ≤ t.fs.length ∧ mm = t.fs.length - i ∧ fieldsGo l (eqI t.k 5) t.fs = fieldsGo l (eqI t.k 5) (t.fs.drop i) ∧
    fr = [.ptr so 0, v1, .box [.int .u8 t.k, .str t.n, .list false (t.fs.map FDef.row), .list false (t.ns.map strRow)], .box [.int .i64 0, .str []], v4, v5, v6, v7, v8, v9, v10, v11, v12, .list false (t.fs.map FDef.row), .int .i64 t.fs.length, .int .i64 i, v16, v17, v18]) (m := t.fs.length) ⟨Gr.refl _, 0, _, _, Nat.zero_le _, rfl, rfl, rfl⟩ ?_
  rintro mm fr st' ⟨hg', i, v7, v8, hi, rfl, hgo, rfl⟩
  have hS' := h.gr hg'
  simp +contextual -implicitDefEqProofs only [K31, SS, reduceAdd,reduceSub,reduceLeDiff,reduceEqDiff,reduceCtorEq]
  by_cases hil : i < t.fs.length
  · have e2 : (t.fs.map FDef.row)[i]? = some (t.fs[i]).row := by rw [List.getElem?_map, List.getElem?_eq_getElem hil]; rfl
    have hok := ht.fs _ (List.getElem_mem hil)
    rw [List.drop_eq_getElem_cons hil, fieldsGo] at hgo
    revert hgo e2 hok
    generalize t.fs[i] = a
    intro hgo e2 hok
    obtain ⟨un, uxs, ub, wk, wn, ws, wx, wy, et, ev, ef⟩ := a.row_cells
    have i1 := field_s (l := l) (so := so) hok (eqI t.k 5) st' hS'
    rw [ef, fltA_cells] at i1
    rw [ef] at e2
    simp +contextual -implicitDefEqProofs only [K31, SS, reduceAdd,reduceSub,reduceLeDiff,reduceEqDiff,reduceCtorEq, hil, e2]
    refine WC.call i1 rfl rfl ?_
    rintro _ st3 ⟨hg3, rfl⟩
    simp +contextual -implicitDefEqProofs only [K31, SS, reduceAdd,reduceSub,reduceLeDiff,reduceEqDiff,reduceCtorEq]
    refine WC.br (fun hy => ?_) (fun hy => ?_)
    · rw [if_pos hy] at hgo
      rw [hgo, if_pos hy] at hS
      simp +contextual -implicitDefEqProofs only [K31, SS, reduceAdd,reduceSub,reduceLeDiff,reduceEqDiff,reduceCtorEq]
      refine WC.leaveR ?_
      simp +contextual -implicitDefEqProofs only [K31, SS, reduceAdd,reduceSub,reduceLeDiff,reduceEqDiff,reduceCtorEq]
      exact WC.ret ⟨_, _, rfl, (hg.trans hg').trans hg3, by rw [hS]; rfl⟩
    · rw [if_neg (by rw [hy]; decide)] at hgo
      simp +contextual -implicitDefEqProofs only [K31, SS, reduceAdd,reduceSub,reduceLeDiff,reduceEqDiff,reduceCtorEq, inc64 (show i + 1 < 2 ^ 63 by omega)]
      exact WC.next (m' := t.fs.length - (i + 1)) (by omega) ⟨hg'.trans hg3, i + 1, _, _, hil, rfl, hgo, rfl⟩
  · rw [List.drop_of_length_le (by omega), fieldsGo] at hgo
    rw [hgo] at hS
    have hS2 : checkS l t = namesGo l t t.ns := by rw [hS]; rfl
    simp +contextual -implicitDefEqProofs only [K31, SS, reduceAdd,reduceSub,reduceLeDiff,reduceEqDiff,reduceCtorEq, hil]
    refine WC.leave ?_
    have := check_names ht hS' (hg.trans hg') hS2 (v1 := v1) (v4 := v4) (v5 := v5) (v6 := v6) (v7 := v7) (v8 := v8) (v9 := v9) (v10 := v10) (v11 := v11) (v12 := v12) (v13 := .list false (t.fs.map FDef.row)) (v14 := .int .i64 t.fs.length) (v15 := .int .i64 i) (v16 := v16) (v17 := v17) (v18 := v18)
    simp only [exec_seqK] at this
    simp only [seqC_x, blkC_x, blkK_some, blkOut_exit, if_true, seqK_normal, exec_seqK]
    exact this
theorem check_s {l : List TDef} {so : Nat} {t : TDef} (ht : t.OK) {st : St} (h : Sch l so st) : EvQ tbl 31 [.ptr so 0, .agg t.row] st (fun a st' => Gr st st' ∧ a = fltA (checkS l t)) := by
  have hlf := ht.lf
  have hln := ht.ln
  rw [TDef.row]
  have hS := checkS.eq_1 l t
  refine EvQ.body (fn := a31) rfl rfl rfl ?_
  show WC _ (checkQ l st t)
  simp +contextual -implicitDefEqProofs only [K31, SS, reduceAdd,reduceSub,reduceLeDiff,reduceEqDiff,reduceCtorEq]
  refine WC.call (list_q t.fs (by omega) _) rfl rfl ?_
  rintro _ st ⟨rfl, rfl⟩
  have hlen : ((namesF t.fs).map strRow).length = t.fs.length := by simp [namesF]
  simp +contextual -implicitDefEqProofs only [K31, SS, reduceAdd,reduceSub,reduceLeDiff,reduceEqDiff,reduceCtorEq, rowsStr, hlen, List.length_map, show (t.fs.length + t.ns.length) * 16 ≤ 2 ^ 47 by omega]
  refine WC.call (twice_s (namesF t.fs ++ t.ns) (by simp [namesF]; omega) _) rfl (by rw [List.map_append]; rfl) ?_
  rintro _ st ⟨rfl, rfl⟩
  revert hS
  generalize twiceS (namesF t.fs ++ t.ns) = f0
  intro hS
  have rest : ∀ {v4 : AV}, checkS l t = (if !eqI (twiceS (namesF t.fs)).1 0 then twiceS (namesF t.fs) else (if !eqI (twiceS t.ns).1 0 then twiceS t.ns else (if !eqI (fieldsGo l (eqI t.k 5) t.fs).1 0 then fieldsGo l (eqI t.k 5) t.fs else namesGo l t t.ns))) →
      WC (fun n => exec (callF tbl n) n ((a31s11.seq a31s16).seq ((a31s19.seq a31s24).seq ((a31s27.seq (ACode.blk 0 (a31s29.seq ((ACode.blk 1 (a31s31.seq (a31s33.seq a31s38))).seq a31s43)).loop)).seq (a31s50.seq ((a31s52.seq (ACode.blk 2 (a31s54.seq ((ACode.blk 3 (a31s56.seq (a31s58.seq (ACode.blk 4 a31s75)))).seq a31s81)).loop)).seq (a31s88.seq ACode.ret))))))
      [.ptr so 0, .agg [.int .u8 t.k, .str t.n, .list false (t.fs.map FDef.row), .list false (t.ns.map strRow)], .box [.int .u8 t.k, .str t.n, .list false (t.fs.map FDef.row), .list false (t.ns.map strRow)], .box [.int .i64 0, .str []], v4, .undef, .undef, .undef, .undef, .undef, .undef, .undef, .undef, .undef, .undef, .undef, .undef, .undef, .undef] st) (checkQ l st t) := by
    intro v4 hS
    simp +contextual -implicitDefEqProofs only [K31, SS, reduceAdd,reduceSub,reduceLeDiff,reduceEqDiff,reduceCtorEq]
    refine WC.call (list_q t.fs (by omega) _) rfl rfl ?_
    rintro _ st ⟨rfl, rfl⟩
    simp +contextual -implicitDefEqProofs only [K31, SS, reduceAdd,reduceSub,reduceLeDiff,reduceEqDiff,reduceCtorEq]
    refine WC.call (twice_s (namesF t.fs) (by simp [namesF]; omega) _) rfl rfl ?_
    rintro _ st ⟨rfl, rfl⟩
    simp +contextual -implicitDefEqProofs only [K31, SS, reduceAdd,reduceSub,reduceLeDiff,reduceEqDiff,reduceCtorEq, fltA_cells]
    refine WC.br (fun hx => ?_) (fun hx => ?_)
    · rw [if_pos hx] at hS
      simp +contextual -implicitDefEqProofs only [K31, SS, reduceAdd,reduceSub,reduceLeDiff,reduceEqDiff,reduceCtorEq]
      exact WC.ret ⟨_, _, rfl, Gr.refl _, by rw [hS]; rfl⟩
    rw [if_neg (by rw [hx]; decide)] at hS
    simp +contextual -implicitDefEqProofs only [K31, SS, reduceAdd,reduceSub,reduceLeDiff,reduceEqDiff,reduceCtorEq]
    refine WC.call (twice_s t.ns (by omega) _) rfl rfl ?_
    rintro _ st ⟨rfl, rfl⟩
    simp +contextual -implicitDefEqProofs only [K31, SS, reduceAdd,reduceSub,reduceLeDiff,reduceEqDiff,reduceCtorEq, fltA_cells]
    refine WC.br (fun hx => ?_) (fun hx => ?_)
    · rw [if_pos hx] at hS
      simp +contextual -implicitDefEqProofs only [K31, SS, reduceAdd,reduceSub,reduceLeDiff,reduceEqDiff,reduceCtorEq]
      exact WC.ret ⟨_, _, rfl, Gr.refl _, by rw [hS]; rfl⟩
    rw [if_neg (by rw [hx]; decide)] at hS
    have := check_fields ht h (Gr.refl _) hS (v1 := .agg [.int .u8 t.k, .str t.n, .list false (t.fs.map FDef.row), .list false (t.ns.map strRow)]) (v4 := v4) (v5 := .box [.int .i64 (twiceS (namesF t.fs)).1, .str (twiceS (namesF t.fs)).2]) (v6 := .box [.int .i64 (twiceS t.ns).1, .str (twiceS t.ns).2]) (v7 := .undef) (v8 := .undef) (v9 := .undef) (v10 := .undef) (v11 := .undef) (v12 := .undef) (v13 := .undef) (v14 := .undef) (v15 := .undef) (v16 := .undef) (v17 := .undef) (v18 := .undef)
    simp +contextual -implicitDefEqProofs only [K31, SS, reduceAdd,reduceSub,reduceLeDiff,reduceEqDiff,reduceCtorEq] at this ⊢
    exact this
  simp +contextual -implicitDefEqProofs only [K31, SS, reduceAdd,reduceSub,reduceLeDiff,reduceEqDiff,reduceCtorEq, fltA_cells]
  refine WC.br (fun hx => ?_) (fun hx => ?_)
  · rw [if_pos hx] at hS
    simp +contextual -implicitDefEqProofs only [K31, SS, reduceAdd,reduceSub,reduceLeDiff,reduceEqDiff,reduceCtorEq]
    exact WC.ret ⟨_, _, rfl, Gr.refl _, by rw [hS]; rfl⟩
  · rw [if_neg (by rw [hx]; decide)] at hS
    have := rest (v4 := .box [.int .i64 f0.1, .str f0.2]) hS
    simp +contextual -implicitDefEqProofs only [K31, SS, reduceAdd,reduceSub,reduceLeDiff,reduceEqDiff,reduceCtorEq] at this ⊢
    exact this
end Go.Cb.CodeA
set_option maxRecDepth 20000
set_option linter.unusedSimpArgs false
set_option linter.unusedVariables false
namespace Go.Cb.CodeA
open Go Go.Cb
open Nat (reduceAdd reduceSub reduceLeDiff reduceEqDiff)
attribute [local congr] obind_congr gv_congr2 gv2_congr brT_congr seqK_congr blkK_congr m1_congr gm_congr

def idN : List Nat := [105, 100]
/-- is it the argument that names a thing? -/
def idB (f : FDef) : Bool := eqN f.name idN && !f.has && sameT f.ty (.base idS true)
theorem id_s (f : FDef) (st : St) : EvQ tbl 67 [.agg f.row] st (fun a st' => st' = st ∧ a = .bool (idB f)) := by
  obtain ⟨tn, txs, tb, vk, vn, vs, vx, vy, et, ev, ef⟩ := f.row_cells
  have hs := same_q f.ty (.base idS true) st
  rw [et, TRef.row, idS] at hs
  rw [ef]
  unfold idB idN idS at *
  refine EvQ.body (fn := a67) rfl rfl rfl ?_
  rcases bool_tf (eqN f.name [105, 100] && !f.has) with hx | hx
  · simp +contextual -implicitDefEqProofs only [K67, SS, reduceAdd,reduceSub,reduceLeDiff,reduceEqDiff,reduceCtorEq, hx]
    refine WC.call hs rfl rfl ?_
    rintro _ _ ⟨rfl, rfl⟩
    simp +contextual -implicitDefEqProofs only [K67, SS, reduceAdd,reduceSub,reduceLeDiff,reduceEqDiff,reduceCtorEq, hx]
    exact WC.ret ⟨_, _, rfl, rfl, rfl⟩
  · simp +contextual -implicitDefEqProofs only [K67, SS, reduceAdd,reduceSub,reduceLeDiff,reduceEqDiff,reduceCtorEq, hx]
    exact WC.ret ⟨_, _, rfl, rfl, rfl⟩
def lookB (l : List TDef) (f : FDef) : Bool := match f.args, f.ty with
  | [a], .base n b => idB a && (!b && compB l n)
  | _, _ => false
def allB (l : List TDef) (f : FDef) : Bool := match f.args with
  | [] => compB l f.ty.baseN && sameT f.ty (.wrap (.base f.ty.baseN true) true)
  | _ => false
theorem look_s {l : List TDef} {so : Nat} {st : St} (h : Sch l so st) (f : FDef) : EvQ tbl 53 [.ptr so 0, .agg f.row] st (fun a st' => st' = st ∧ a = .bool (lookB l f)) := by
  cases f with
  | mk n as t has v =>
    obtain ⟨tn, txs, tb, et⟩ := t.row_cells
    obtain ⟨vk, vn, vs, vx, vy, ev⟩ := v.row_cells
    rw [FDef.row_mk et ev]
    simp only [lookB, FDef.args, FDef.ty]
    refine EvQ.body (fn := a53) rfl rfl rfl ?_
    match as with
    | [] =>
      simp +contextual -implicitDefEqProofs only [K53, SS, reduceAdd,reduceSub,reduceLeDiff,reduceEqDiff,reduceCtorEq, show eqI ((0 : Nat) : Int) 1 = false from rfl]
      exact WC.ret ⟨_, _, rfl, rfl, rfl⟩
    | a :: b :: r =>
      have e1 : eqI ((r.length + 1 + 1 : Nat) : Int) 1 = false := by rw [eqI_eq]; simp; omega
      simp +contextual -implicitDefEqProofs only [K53, SS, reduceAdd,reduceSub,reduceLeDiff,reduceEqDiff,reduceCtorEq, List.length_map, e1]
      exact WC.ret ⟨_, _, rfl, rfl, rfl⟩
    | [a] =>
      have ha := id_s a
      obtain ⟨un, uxs, ub, wk, wn, ws, wx, wy, gt, gv', gf⟩ := a.row_cells
      rw [gf] at ha
      simp +contextual -implicitDefEqProofs only [K53, SS, reduceAdd,reduceSub,reduceLeDiff,reduceEqDiff,reduceCtorEq, show eqI ((1 : Nat) : Int) 1 = true from rfl, gf]
      refine WC.call (ha _) rfl rfl ?_
      rintro _ _ ⟨rfl, rfl⟩
      cases hia : idB a with
      | false =>
        simp +contextual -implicitDefEqProofs only [K53, SS, reduceAdd,reduceSub,reduceLeDiff,reduceEqDiff,reduceCtorEq]
        exact WC.ret ⟨_, _, rfl, rfl, by cases t <;> simp only [hia, Bool.false_and] <;> rfl⟩
      | true =>
      cases t with
      | wrap u c =>
        simp only [TRef.row, List.cons.injEq, AV.str.injEq, AV.list.injEq, AV.bool.injEq, true_and, and_true] at et
        obtain ⟨rfl, rfl, rfl⟩ := et
        simp +contextual -implicitDefEqProofs only [K53, SS, reduceAdd,reduceSub,reduceLeDiff,reduceEqDiff,reduceCtorEq, show eqI ((1 : Nat) : Int) 0 = false from rfl]
        exact WC.ret ⟨_, _, rfl, rfl, rfl⟩
      | base m c =>
        simp only [TRef.row, List.cons.injEq, AV.str.injEq, AV.list.injEq, AV.bool.injEq, true_and, and_true] at et
        obtain ⟨rfl, rfl, rfl⟩ := et
        cases c with
        | true =>
          simp +contextual -implicitDefEqProofs only [K53, SS, reduceAdd,reduceSub,reduceLeDiff,reduceEqDiff,reduceCtorEq, show eqI ((0 : Nat) : Int) 0 = true from rfl]
          exact WC.ret ⟨_, _, rfl, rfl, rfl⟩
        | false =>
          simp +contextual -implicitDefEqProofs only [K53, SS, reduceAdd,reduceSub,reduceLeDiff,reduceEqDiff,reduceCtorEq, show eqI ((0 : Nat) : Int) 0 = true from rfl]
          refine WC.call (comp_s h _) rfl rfl ?_
          rintro _ _ ⟨rfl, rfl⟩
          simp +contextual -implicitDefEqProofs only [K53, SS, reduceAdd,reduceSub,reduceLeDiff,reduceEqDiff,reduceCtorEq]
          exact WC.ret ⟨_, _, rfl, rfl, by rw [hia]; rfl⟩
theorem all_s {l : List TDef} {so : Nat} {st : St} (h : Sch l so st) (f : FDef) : EvQ tbl 54 [.ptr so 0, .agg f.row] st (fun a st' => st' = st ∧ a = .bool (allB l f)) := by
  cases f with
  | mk n as t has v =>
    obtain ⟨tn, txs, tb, et⟩ := t.row_cells
    obtain ⟨vk, vn, vs, vx, vy, ev⟩ := v.row_cells
    rw [FDef.row_mk et ev]
    simp only [allB, FDef.args, FDef.ty]
    refine EvQ.body (fn := a54) rfl rfl rfl ?_
    match as with
    | a :: r =>
      have e1 : eqI ((r.length + 1 : Nat) : Int) 0 = false := by rw [eqI_eq]; simp; omega
      simp +contextual -implicitDefEqProofs only [K54, SS, reduceAdd,reduceSub,reduceLeDiff,reduceEqDiff,reduceCtorEq, List.length_map, e1]
      exact WC.ret ⟨_, _, rfl, rfl, rfl⟩
    | [] =>
      have hb := base_q t
      have hs := same_q t (.wrap (.base t.baseN true) true)
      rw [et] at hb hs
      simp only [TRef.row] at hs
      simp +contextual -implicitDefEqProofs only [K54, SS, reduceAdd,reduceSub,reduceLeDiff,reduceEqDiff,reduceCtorEq, show eqI ((0 : Nat) : Int) 0 = true from rfl]
      refine WC.call (hb _) rfl rfl ?_
      rintro _ _ ⟨rfl, rfl⟩
      simp +contextual -implicitDefEqProofs only [K54, SS, reduceAdd,reduceSub,reduceLeDiff,reduceEqDiff,reduceCtorEq]
      refine WC.call (comp_s h _) rfl rfl ?_
      rintro _ _ ⟨rfl, rfl⟩
      cases hc : compB l t.baseN with
      | false =>
        simp +contextual -implicitDefEqProofs only [K54, SS, reduceAdd,reduceSub,reduceLeDiff,reduceEqDiff,reduceCtorEq]
        exact WC.ret ⟨_, _, rfl, rfl, rfl⟩
      | true =>
        simp +contextual -implicitDefEqProofs only [K54, SS, reduceAdd,reduceSub,reduceLeDiff,reduceEqDiff,reduceCtorEq]
        refine WC.call (hb _) rfl rfl ?_
        rintro _ _ ⟨rfl, rfl⟩
        simp +contextual -implicitDefEqProofs only [K54, SS, reduceAdd,reduceSub,reduceLeDiff,reduceEqDiff,reduceCtorEq]
        refine WC.call (hs _) rfl rfl ?_
        rintro _ _ ⟨rfl, rfl⟩
        simp +contextual -implicitDefEqProofs only [K54, SS, reduceAdd,reduceSub,reduceLeDiff,reduceEqDiff,reduceCtorEq]
        exact WC.ret ⟨_, _, rfl, rfl, rfl⟩
theorem cut0_s (s p : List Nat) (st : St) : EvQ tbl 79 [.str s, .str p] st (fun a st' => st' = st ∧ a = .tuple [.str (if beginsN s p then s.drop p.length else s), .bool (beginsN s p)]) := by
  refine EvQ.body (fn := a79) rfl rfl rfl ?_
  simp +contextual -implicitDefEqProofs only [K79, SS, reduceAdd,reduceSub,reduceLeDiff,reduceEqDiff,reduceCtorEq]
  refine WC.call (hasPrefix0_q s p _) rfl rfl ?_
  rintro _ _ ⟨rfl, rfl⟩
  cases hb : beginsN s p with
  | false =>
    simp +contextual -implicitDefEqProofs only [K79, SS, reduceAdd,reduceSub,reduceLeDiff,reduceEqDiff,reduceCtorEq]
    exact WC.ret ⟨_, _, rfl, rfl, rfl⟩
  | true =>
    have hl : p.length ≤ s.length := by
      simp [beginsN] at hb
      exact hb.1
    simp +contextual -implicitDefEqProofs only [K79, SS, reduceAdd,reduceSub,reduceLeDiff,reduceEqDiff,reduceCtorEq, hl, List.take_length]
    exact WC.ret ⟨_, _, rfl, rfl, rfl⟩
theorem cut_s (s p : List Nat) (st : St) : EvQ tbl 76 [.str s, .str p] st (fun a st' => st' = st ∧ a = .tuple [.str (if beginsN s p then s.drop p.length else s), .bool (beginsN s p)]) := by
  refine EvQ.body (fn := a76) rfl rfl rfl ?_
  simp +contextual -implicitDefEqProofs only [K76, SS, reduceAdd,reduceSub,reduceLeDiff,reduceEqDiff,reduceCtorEq]
  refine WC.call (cut0_s s p _) rfl rfl ?_
  rintro _ _ ⟨rfl, rfl⟩
  simp +contextual -implicitDefEqProofs only [K76, SS, reduceAdd,reduceSub,reduceLeDiff,reduceEqDiff,reduceCtorEq]
  exact WC.ret ⟨_, _, rfl, rfl, rfl⟩
def createN : List Nat := [99, 114, 101, 97, 116, 101]
def updateN : List Nat := [117, 112, 100, 97, 116, 101]
def deleteN : List Nat := [100, 101, 108, 101, 116, 101]
def verbS (s : List Nat) : List Nat × List Nat := if beginsN s createN then (createN, s.drop 6) else (if beginsN s updateN then (updateN, s.drop 6) else (if beginsN s deleteN then (deleteN, s.drop 6) else ([], [])))
theorem verb_s (s : List Nat) (st : St) : EvQ tbl 68 [.str s] st (fun a st' => st' = st ∧ a = .tuple [.str (verbS s).1, .str (verbS s).2]) := by
  unfold verbS
  refine EvQ.body (fn := a68) rfl rfl rfl ?_
  simp +contextual -implicitDefEqProofs only [K68, SS, reduceAdd,reduceSub,reduceLeDiff,reduceEqDiff,reduceCtorEq]
  refine WC.loopR (fun mm fr st' => st' = st ∧ ((mm = 3 ∧ ∃ v3 v4 v5, fr = [.str s, .str [], .str [], v3, v4, v5, .list true [[.str createN], [.str updateN], [.str deleteN]], .int .i64 3, .int .i64 0]) ∨
    (mm = 2 ∧ beginsN s createN = false ∧ ∃ v3 v4 v5, fr = [.str s, .str [], .str [], v3, v4, v5, .list true [[.str createN], [.str updateN], [.str deleteN]], .int .i64 3, .int .i64 1]) ∨
    (mm = 1 ∧ beginsN s createN = false ∧ beginsN s updateN = false ∧ ∃ v3 v4 v5, fr = [.str s, .str [], .str [], v3, v4, v5, .list true [[.str createN], [.str updateN], [.str deleteN]], .int .i64 3, .int .i64 2]) ∨
    (mm = 0 ∧ beginsN s createN = false ∧ beginsN s updateN = false ∧ beginsN s deleteN = false ∧ ∃ v3 v4 v5, fr = [.str s, .str [], .str [], v3, v4, v5, .list true [[.str createN], [.str updateN], [.str deleteN]], .int .i64 3, .int .i64 3]))) (m := 3) ⟨rfl, Or.inl ⟨rfl, _, _, _, rfl⟩⟩ ?_
  rintro mm fr st' ⟨rfl, ⟨rfl, v3, v4, v5, rfl⟩ | ⟨rfl, h1, v3, v4, v5, rfl⟩ | ⟨rfl, h1, h2, v3, v4, v5, rfl⟩ | ⟨rfl, h1, h2, h3, v3, v4, v5, rfl⟩⟩
  · simp +contextual -implicitDefEqProofs only [K68, SS, reduceAdd,reduceSub,reduceLeDiff,reduceEqDiff,reduceCtorEq, show ltI 0 3 = true from rfl]
    refine WC.call (cut_s s createN _) rfl rfl ?_
    rintro _ _ ⟨rfl, rfl⟩
    cases hb : beginsN s createN with
    | true =>
      simp +contextual -implicitDefEqProofs only [K68, SS, reduceAdd,reduceSub,reduceLeDiff,reduceEqDiff,reduceCtorEq, hb]
      refine WC.leaveR ?_
      simp +contextual -implicitDefEqProofs only [K68, SS, reduceAdd,reduceSub,reduceLeDiff,reduceEqDiff,reduceCtorEq]
      exact WC.ret ⟨_, _, rfl, rfl, rfl⟩
    | false =>
      simp +contextual -implicitDefEqProofs only [K68, SS, reduceAdd,reduceSub,reduceLeDiff,reduceEqDiff,reduceCtorEq, hb, show wrapA .i64 (addI 0 1) = 1 from rfl]
      exact WC.next (m' := 2) (by decide) ⟨rfl, Or.inr (Or.inl ⟨rfl, _, _, _, rfl⟩)⟩
  · simp +contextual -implicitDefEqProofs only [K68, SS, reduceAdd,reduceSub,reduceLeDiff,reduceEqDiff,reduceCtorEq, show ltI 1 3 = true from rfl]
    refine WC.call (cut_s s updateN _) rfl rfl ?_
    rintro _ _ ⟨rfl, rfl⟩
    cases hb : beginsN s updateN with
    | true =>
      simp +contextual -implicitDefEqProofs only [K68, SS, reduceAdd,reduceSub,reduceLeDiff,reduceEqDiff,reduceCtorEq, hb, h1]
      refine WC.leaveR ?_
      simp +contextual -implicitDefEqProofs only [K68, SS, reduceAdd,reduceSub,reduceLeDiff,reduceEqDiff,reduceCtorEq]
      exact WC.ret ⟨_, _, rfl, rfl, rfl⟩
    | false =>
      simp +contextual -implicitDefEqProofs only [K68, SS, reduceAdd,reduceSub,reduceLeDiff,reduceEqDiff,reduceCtorEq, hb, show wrapA .i64 (addI 1 1) = 2 from rfl]
      exact WC.next (m' := 1) (by decide) ⟨rfl, Or.inr (Or.inr (Or.inl ⟨rfl, h1, _, _, _, rfl⟩))⟩
  · simp +contextual -implicitDefEqProofs only [K68, SS, reduceAdd,reduceSub,reduceLeDiff,reduceEqDiff,reduceCtorEq, show ltI 2 3 = true from rfl]
    refine WC.call (cut_s s deleteN _) rfl rfl ?_
    rintro _ _ ⟨rfl, rfl⟩
    cases hb : beginsN s deleteN with
    | true =>
      simp +contextual -implicitDefEqProofs only [K68, SS, reduceAdd,reduceSub,reduceLeDiff,reduceEqDiff,reduceCtorEq, hb, h1, h2]
      refine WC.leaveR ?_
      simp +contextual -implicitDefEqProofs only [K68, SS, reduceAdd,reduceSub,reduceLeDiff,reduceEqDiff,reduceCtorEq]
      exact WC.ret ⟨_, _, rfl, rfl, rfl⟩
    | false =>
      simp +contextual -implicitDefEqProofs only [K68, SS, reduceAdd,reduceSub,reduceLeDiff,reduceEqDiff,reduceCtorEq, hb, show wrapA .i64 (addI 2 1) = 3 from rfl]
      exact WC.next (m' := 0) (by decide) ⟨rfl, Or.inr (Or.inr (Or.inr ⟨rfl, h1, h2, _, _, _, rfl⟩))⟩
  · simp +contextual -implicitDefEqProofs only [K68, SS, reduceAdd,reduceSub,reduceLeDiff,reduceEqDiff,reduceCtorEq, show ltI 3 3 = false from rfl, h1, h2, h3]
    refine WC.leave ?_
    simp +contextual -implicitDefEqProofs only [K68, SS, reduceAdd,reduceSub,reduceLeDiff,reduceEqDiff,reduceCtorEq]
    exact WC.ret ⟨_, _, rfl, rfl, rfl⟩
end Go.Cb.CodeA
set_option maxRecDepth 20000
set_option linter.unusedSimpArgs false
set_option linter.unusedVariables false
namespace Go.Cb.CodeA
open Go Go.Cb
open Nat (reduceAdd reduceSub reduceLeDiff reduceEqDiff)
attribute [local congr] obind_congr gv_congr2 gv2_congr brT_congr seqK_congr blkK_congr m1_congr gm_congr

/-- may a field be told by an input's field? -/
def matchB (l : List TDef) : TRef → TRef → Bool
  | .wrap t _, .wrap u _ => matchB l t u
  | .base n _, .base m _ => eqN n m || (compB l n && eqN m idS)
  | _, _ => false
theorem match_s {l : List TDef} {so : Nat} : ∀ (t u : TRef) (st : St), Sch l so st → EvQ tbl 70 [.ptr so 0, .agg t.row, .agg u.row] st (fun a st' => st' = st ∧ a = .bool (matchB l t u)) := by
  intro t
  induction t with
  | base n b =>
    intro u st h
    cases u with
    | wrap u c =>
      refine EvQ.body (fn := a70) rfl rfl rfl ?_
      simp only [TRef.row]
      simp +contextual -implicitDefEqProofs only [K70, SS, reduceAdd,reduceSub,reduceLeDiff,reduceEqDiff,reduceCtorEq]
      exact WC.ret ⟨_, _, rfl, rfl, rfl⟩
    | base m c =>
      simp only [matchB]
      refine EvQ.body (fn := a70) rfl rfl rfl ?_
      simp only [TRef.row]
      cases he : eqN n m with
      | true =>
        simp +contextual -implicitDefEqProofs only [K70, SS, reduceAdd,reduceSub,reduceLeDiff,reduceEqDiff,reduceCtorEq, he, show ltI 0 ((0 : Nat) : Int) = false from rfl]
        exact WC.ret ⟨_, _, rfl, rfl, rfl⟩
      | false =>
        simp +contextual -implicitDefEqProofs only [K70, SS, reduceAdd,reduceSub,reduceLeDiff,reduceEqDiff,reduceCtorEq, he, show ltI 0 ((0 : Nat) : Int) = false from rfl]
        refine WC.call (comp_s h _) rfl rfl ?_
        rintro _ _ ⟨rfl, rfl⟩
        cases hc : compB l n with
        | true =>
          simp +contextual -implicitDefEqProofs only [K70, SS, reduceAdd,reduceSub,reduceLeDiff,reduceEqDiff,reduceCtorEq, he]
          exact WC.ret ⟨_, _, rfl, rfl, rfl⟩
        | false =>
          simp +contextual -implicitDefEqProofs only [K70, SS, reduceAdd,reduceSub,reduceLeDiff,reduceEqDiff,reduceCtorEq, he]
          exact WC.ret ⟨_, _, rfl, rfl, rfl⟩
  | wrap t b ih =>
    intro u st h
    cases u with
    | base m c =>
      refine EvQ.body (fn := a70) rfl rfl rfl ?_
      simp only [TRef.row]
      simp +contextual -implicitDefEqProofs only [K70, SS, reduceAdd,reduceSub,reduceLeDiff,reduceEqDiff,reduceCtorEq]
      exact WC.ret ⟨_, _, rfl, rfl, rfl⟩
    | wrap u c =>
      have i1 := ih u st h
      have et := t.row_eq
      have eu := u.row_eq
      rw [et, eu] at i1
      refine EvQ.body (fn := a70) rfl rfl rfl ?_
      simp only [TRef.row, et, eu]
      simp +contextual -implicitDefEqProofs only [K70, SS, reduceAdd,reduceSub,reduceLeDiff,reduceEqDiff,reduceCtorEq, show ltI 0 ((1 : Nat) : Int) = true from rfl]
      refine WC.call i1 rfl rfl ?_
      rintro _ _ ⟨rfl, rfl⟩
      simp +contextual -implicitDefEqProofs only [K70, SS, reduceAdd,reduceSub,reduceLeDiff,reduceEqDiff,reduceCtorEq]
      exact WC.ret ⟨_, _, rfl, rfl, rfl⟩
/-- is there no field of a type that an input's field tells? -/
def untold (l : List TDef) (fs : List FDef) (x : FDef) : Bool := match fldAt fs x.name with
  | none => true
  | some g => !matchB l g.ty x.ty
theorem untold_s {l : List TDef} {so : Nat} (t : TDef) (ht : t.OK) (f : FDef) (o7 o2 : Nat) (st : St) (h : Sch l so st) (h7 : st[o7]? = some (.cells t.row)) (h2 : st[o2]? = some (.cells [.ptr so 0])) : EvQ tbl 69 [.agg f.row, .ptr o7 0, .ptr o2 0] st (fun a st' => Gr st st' ∧ a = .bool (untold l t.fs f)) := by
  have hl := ht.lf
  obtain ⟨tn, txs, tb, vk, vn, vs, vx, vy, et, ev, ef⟩ := f.row_cells
  rw [ef]
  rw [TDef.row] at h7
  refine EvQ.body (fn := a69) rfl rfl rfl ?_
  simp +contextual -implicitDefEqProofs only [K69, SS, reduceAdd,reduceSub,reduceLeDiff,reduceEqDiff,reduceCtorEq, h7]
  refine WC.call (list_q t.fs (by omega) _) rfl rfl ?_
  rintro _ _ ⟨rfl, rfl⟩
  simp +contextual -implicitDefEqProofs only [K69, SS, reduceAdd,reduceSub,reduceLeDiff,reduceEqDiff,reduceCtorEq]
  refine WC.call (index_q (namesF t.fs) (by simp [namesF]; omega) _ _) rfl rfl ?_
  rintro _ _ ⟨rfl, rfl⟩
  rcases idx_fld f.name t.fs with ⟨f1, f2⟩ | ⟨j, g, f1, f2, f3⟩
  · simp +contextual -implicitDefEqProofs only [K69, SS, reduceAdd,reduceSub,reduceLeDiff,reduceEqDiff,reduceCtorEq, f2, ltI_neg1]
    exact WC.ret ⟨_, _, rfl, Gr.refl _, by simp only [untold, f1]; rfl⟩
  · have f4 : (t.fs.map FDef.row)[j]? = some g.row := by rw [List.getElem?_map, f3]; rfl
    obtain ⟨un, uxs, ub, wk, wn, ws, wx, wy, gt, gv', gf⟩ := g.row_cells
    rw [gf] at f4
    have hs := match_s (l := l) (so := so) g.ty f.ty
    rw [gt, et] at hs
    simp +contextual -implicitDefEqProofs only [K69, SS, reduceAdd,reduceSub,reduceLeDiff,reduceEqDiff,reduceCtorEq, f2, ltI_nat0, h7, h2, f4]
    refine WC.call (hs _ h) rfl rfl ?_
    rintro _ _ ⟨rfl, rfl⟩
    simp +contextual -implicitDefEqProofs only [K69, SS, reduceAdd,reduceSub,reduceLeDiff,reduceEqDiff,reduceCtorEq]
    exact WC.ret ⟨_, _, rfl, Gr.refl _, by simp only [untold, f1]; rfl⟩

def inputN : List Nat := [105, 110, 112, 117, 116]
def argsB (l : List TDef) (t : TDef) (as : List FDef) : Bool := match as with
  | [a, b] => idB a && (eqN b.name inputN && (match b.ty with
    | .base m true => (lk l m).isSome && (eqI ((lk l m).getD TDef.zero).k 5 && !(((lk l m).getD TDef.zero).fs.any (untold l t.fs)))
    | _ => false))
  | _ => false
def delB (as : List FDef) : Bool := match as with
  | [a] => idB a
  | _ => false
def changeB (l : List TDef) (f : FDef) : Bool :=
  !(!(lk l (verbS f.name).2).isSome || !eqI ((lk l (verbS f.name).2).getD TDef.zero).k 1 || rootB (verbS f.name).2 || !sameT f.ty (.base (verbS f.name).2 false)) &&
  cond (eqN (verbS f.name).1 deleteN) (delB f.args) (argsB l ((lk l (verbS f.name).2).getD TDef.zero) f.args)

def chQ (st : St) (b : Bool) (o : Out) : Prop := ∃ r st', finK [ResK.v 4] (some o) = some (r, st') ∧ Gr st st' ∧ r = .bool b
theorem change_args {l : List TDef} {so : Nat} {st0 st : St} (h : Sch l so st) (hg : Gr st0 st) (t : TDef) (ht : t.OK) (as : List FDef) {o2 o7 : Nat} (h7 : st[o7]? = some (.cells t.row)) (h2 : st[o2]? = some (.cells [.ptr so 0])) {v1 v5 v6 v8 v9 : AV} {n : List Nat} {c2 : List Nat} {c3 : List (List AV)} {c4 c5 : Bool} {c6 c7 : Int} {c8 : List Nat} {c9 c10 : List (List AV)} :
    WC (fun n' => exec (callF tbl n') n' (a55s20.seq (a55s22.seq (a55s27.seq (a55s29.seq ACode.ret)))) [.ptr so 0, v1, .ptr o2 0, .box [.str n, .list false (as.map FDef.row), .str c2, .list false c3, .bool c4, .bool c5, .int .u8 c6, .int .i64 c7, .str c8, .list false c9, .list false c10], .bool false, v5, v6, .ptr o7 0, v8, v9] st) (chQ st0 (argsB l t as)) := by
  match as with
  | [] =>
    simp +contextual -implicitDefEqProofs only [K55, SS, reduceAdd,reduceSub,reduceLeDiff,reduceEqDiff,reduceCtorEq, show eqI ((0 : Nat) : Int) 2 = false from rfl]
    exact WC.ret ⟨_, _, rfl, hg, rfl⟩
  | [a] =>
    simp +contextual -implicitDefEqProofs only [K55, SS, reduceAdd,reduceSub,reduceLeDiff,reduceEqDiff,reduceCtorEq, show eqI ((1 : Nat) : Int) 2 = false from rfl]
    exact WC.ret ⟨_, _, rfl, hg, rfl⟩
  | a :: b :: c :: r =>
    have e1 : eqI ((r.length + 1 + 1 + 1 : Nat) : Int) 2 = false := by rw [eqI_eq]; simp; omega
    simp +contextual -implicitDefEqProofs only [K55, SS, reduceAdd,reduceSub,reduceLeDiff,reduceEqDiff,reduceCtorEq, List.length_map, e1]
    exact WC.ret ⟨_, _, rfl, hg, rfl⟩
  | [a, b] =>
    have ha := id_s a
    obtain ⟨un, uxs, ub, wk, wn, ws, wx, wy, gt, gv', gf⟩ := a.row_cells
    obtain ⟨pn, pxs, pb, qk, qn, qs, qx, qy, bt, bv', bf⟩ := b.row_cells
    rw [gf] at ha
    simp only [argsB]
    simp +contextual -implicitDefEqProofs only [K55, SS, reduceAdd,reduceSub,reduceLeDiff,reduceEqDiff,reduceCtorEq, show eqI ((2 : Nat) : Int) 2 = true from rfl, gf, bf]
    refine WC.call (ha _) rfl rfl ?_
    rintro _ st ⟨rfl, rfl⟩
    cases hia : idB a with
    | false =>
      simp +contextual -implicitDefEqProofs only [K55, SS, reduceAdd,reduceSub,reduceLeDiff,reduceEqDiff,reduceCtorEq]
      exact WC.ret ⟨_, _, rfl, hg, rfl⟩
    | true =>
    cases hin : eqN b.name inputN with
    | false =>
      have hin' : eqN b.name [105, 110, 112, 117, 116] = false := hin
      simp +contextual -implicitDefEqProofs only [K55, SS, reduceAdd,reduceSub,reduceLeDiff,reduceEqDiff,reduceCtorEq, bf, hin']
      exact WC.ret ⟨_, _, rfl, hg, rfl⟩
    | true =>
    have hin' : eqN b.name [105, 110, 112, 117, 116] = true := hin
    revert bt
    cases b.ty with
    | wrap u c =>
      intro bt
      simp only [TRef.row, List.cons.injEq, AV.str.injEq, AV.list.injEq, AV.bool.injEq, true_and, and_true] at bt
      obtain ⟨rfl, rfl, rfl⟩ := bt
      cases c <;> simp +contextual -implicitDefEqProofs only [K55, SS, reduceAdd,reduceSub,reduceLeDiff,reduceEqDiff,reduceCtorEq, bf, hin', show ltI 0 ((1 : Nat) : Int) = true from rfl] <;> exact WC.ret ⟨_, _, rfl, hg, rfl⟩
    | base m c =>
      intro bt
      simp only [TRef.row, List.cons.injEq, AV.str.injEq, AV.list.injEq, AV.bool.injEq, true_and, and_true] at bt
      obtain ⟨rfl, rfl, rfl⟩ := bt
      cases c with
      | false =>
        simp +contextual -implicitDefEqProofs only [K55, SS, reduceAdd,reduceSub,reduceLeDiff,reduceEqDiff,reduceCtorEq, bf, hin', show ltI 0 ((0 : Nat) : Int) = false from rfl]
        exact WC.ret ⟨_, _, rfl, hg, rfl⟩
      | true =>
        have hd := lk_ok h m
        simp +contextual -implicitDefEqProofs only [K55, SS, reduceAdd,reduceSub,reduceLeDiff,reduceEqDiff,reduceCtorEq, bf, hin', show ltI 0 ((0 : Nat) : Int) = false from rfl, h2]
        refine WC.call (type_s h m) rfl rfl ?_
        rintro _ st ⟨rfl, rfl⟩
        revert hd
        unfold typeA
        generalize (lk l m).isSome = q
        generalize (lk l m).getD TDef.zero = d
        intro hd
        have hdf := hd.lf
        cases q with
        | false =>
          simp +contextual -implicitDefEqProofs only [K55, SS, reduceAdd,reduceSub,reduceLeDiff,reduceEqDiff,reduceCtorEq, TDef.row]
          exact WC.ret ⟨_, _, rfl, hg, rfl⟩
        | true =>
        cases hk5 : eqI d.k 5 with
        | false =>
          simp +contextual -implicitDefEqProofs only [K55, SS, reduceAdd,reduceSub,reduceLeDiff,reduceEqDiff,reduceCtorEq, TDef.row, hk5]
          exact WC.ret ⟨_, _, rfl, hg, rfl⟩
        | true =>
          have hc := containsF_s 69 [.ptr o7 0, .ptr o2 0] rfl (untold l t.fs) d.fs (by omega) st (fun f _ st2 hg2 => untold_s t ht f o7 o2 st2 (h.gr hg2) (hg2 _ _ h7) (hg2 _ _ h2)) st (Gr.refl _)
          simp +contextual -implicitDefEqProofs only [K55, SS, reduceAdd,reduceSub,reduceLeDiff,reduceEqDiff,reduceCtorEq, TDef.row, hk5]
          refine WC.call hc rfl rfl ?_
          rintro _ st3 ⟨hg3, rfl⟩
          simp +contextual -implicitDefEqProofs only [K55, SS, reduceAdd,reduceSub,reduceLeDiff,reduceEqDiff,reduceCtorEq]
          exact WC.ret ⟨_, _, rfl, hg.trans hg3, rfl⟩
end Go.Cb.CodeA
/- What functions of the abstract machine answer. No conditions but those that each theorem names. -/
set_option maxRecDepth 20000
set_option linter.unusedSimpArgs false
set_option linter.unusedVariables false
namespace Go.Cb.CodeA
open Go Go.Cb
open Nat (reduceAdd reduceSub reduceLeDiff reduceEqDiff)
attribute [local congr] obind_congr gv_congr2 gv2_congr brT_congr seqK_congr blkK_congr m1_congr gm_congr

theorem change_s {l : List TDef} {so : Nat} {st : St} (h : Sch l so st) (f : FDef) : EvQ tbl 55 [.ptr so 0, .agg f.row] st (fun a st' => Gr st st' ∧ a = .bool (changeB l f)) := by
  cases f with
  | mk nm as ty has v =>
    obtain ⟨tn, txs, tb, et⟩ := ty.row_cells
    obtain ⟨vk, vn, vs, vx, vy, ev⟩ := v.row_cells
    rw [FDef.row_mk et ev]
    simp only [changeB, FDef.name, FDef.ty, FDef.args]
    have hverb := verb_s nm
    revert hverb
    generalize verbS nm = vv
    obtain ⟨vb, n⟩ := vv
    intro hverb
    dsimp only at hverb ⊢
    obtain ⟨hg, h2⟩ := one_more st (.cells [.ptr so 0])
    refine EvQ.body (fn := a55) rfl rfl rfl ?_
    simp +contextual -implicitDefEqProofs only [K55, SS, reduceAdd,reduceSub,reduceLeDiff,reduceEqDiff,reduceCtorEq]
    revert hg h2
    generalize st ++ [Obj.cells [AV.ptr so 0]] = st1
    generalize st.length = o2
    intro hg h2
    have h1 := h.gr hg
    refine WC.call (hverb _) rfl rfl ?_
    rintro _ st1 ⟨rfl, rfl⟩
    have hd := lk_ok h1 n
    simp +contextual -implicitDefEqProofs only [K55, SS, reduceAdd,reduceSub,reduceLeDiff,reduceEqDiff,reduceCtorEq, h2]
    refine WC.call (type_s h1 n) rfl rfl ?_
    rintro _ st1 ⟨rfl, rfl⟩
    revert hd
    unfold typeA
    generalize (lk l n).isSome = q
    generalize (lk l n).getD TDef.zero = t
    intro ht
    have hs := same_q ty (.base n false)
    rw [et, TRef.row] at hs
    obtain ⟨hg2, h7⟩ := one_more st1 (.cells t.row)
    have e1 : ∀ x : Obj, (st1 ++ [x])[st1.length]? = some x := fun x => by simp
    have e2 : ∀ x y : Obj, (st1 ++ [x]).set st1.length y = st1 ++ [y] := fun x y => by simp
    have h2' := hg2 _ _ h2
    have h1' := h1.gr hg2
    have hgg := hg.trans hg2
    rw [TDef.row] at hg2 h7 h2' h1' hgg
    have stop : ∀ {v5 v6 v8 : AV} {o7 : Nat} {st2 : St}, Gr st st2 → WC (fun n' => exec (callF tbl n') n' (a55s9.seq (a55s15.seq (a55s20.seq (a55s22.seq (a55s27.seq (a55s29.seq ACode.ret)))))) [.ptr so 0, .agg [.str nm, .list false (as.map FDef.row), .str tn, .list false txs, .bool tb, .bool has, .int .u8 vk, .int .i64 vn, .str vs, .list false vx, .list false vy], .ptr o2 0, .box [.str nm, .list false (as.map FDef.row), .str tn, .list false txs, .bool tb, .bool has, .int .u8 vk, .int .i64 vn, .str vs, .list false vx, .list false vy], .bool false, v5, v6, .ptr o7 0, v8, .undef] st2) (chQ st false) := by
      intro v5 v6 v8 o7 st2 hgr
      simp +contextual -implicitDefEqProofs only [K55, SS, reduceAdd,reduceSub,reduceLeDiff,reduceEqDiff,reduceCtorEq]
      exact WC.ret ⟨_, _, rfl, hgr, rfl⟩
    show WC _ (chQ st _)
    cases q with
    | false =>
      simp +contextual -implicitDefEqProofs only [K55, SS, reduceAdd,reduceSub,reduceLeDiff,reduceEqDiff,reduceCtorEq, TDef.row, e1, e2]
      exact WC.ret ⟨_, _, rfl, hgg, rfl⟩
    | true =>
    cases hk : eqI t.k 1 with
    | false =>
      simp +contextual -implicitDefEqProofs only [K55, SS, reduceAdd,reduceSub,reduceLeDiff,reduceEqDiff,reduceCtorEq, TDef.row, e1, e2, hk]
      exact WC.ret ⟨_, _, rfl, hgg, rfl⟩
    | true =>
    simp +contextual -implicitDefEqProofs only [K55, SS, reduceAdd,reduceSub,reduceLeDiff,reduceEqDiff,reduceCtorEq, TDef.row, e1, e2, hk]
    revert h7 h2' h1' hgg
    generalize st1 ++ [Obj.cells [AV.int .u8 t.k, AV.str t.n, AV.list false (t.fs.map FDef.row), AV.list false (t.ns.map strRow)]] = st2
    generalize st1.length = o7
    intro h7 h2' h1' hgg
    refine WC.call (root_s n _) rfl rfl ?_
    rintro _ st2 ⟨rfl, rfl⟩
    cases hr : rootB n with
    | true =>
      simp +contextual -implicitDefEqProofs only [K55, SS, reduceAdd,reduceSub,reduceLeDiff,reduceEqDiff,reduceCtorEq]
      exact WC.ret ⟨_, _, rfl, hgg, rfl⟩
    | false =>
    simp +contextual -implicitDefEqProofs only [K55, SS, reduceAdd,reduceSub,reduceLeDiff,reduceEqDiff,reduceCtorEq]
    refine WC.call (hs _) rfl rfl ?_
    rintro _ st2 ⟨rfl, rfl⟩
    cases hsm : sameT ty (.base n false) with
    | false =>
      simp +contextual -implicitDefEqProofs only [K55, SS, reduceAdd,reduceSub,reduceLeDiff,reduceEqDiff,reduceCtorEq]
      exact WC.ret ⟨_, _, rfl, hgg, rfl⟩
    | true =>
    cases hvd : eqN vb deleteN with
    | true =>
      have hvd' : eqN vb [100, 101, 108, 101, 116, 101] = true := hvd
      match as with
      | [] =>
        simp +contextual -implicitDefEqProofs only [K55, SS, reduceAdd,reduceSub,reduceLeDiff,reduceEqDiff,reduceCtorEq, hvd', show eqI ((0 : Nat) : Int) 1 = false from rfl]
        exact WC.ret ⟨_, _, rfl, hgg, rfl⟩
      | a :: b :: r =>
        have e1 : eqI ((r.length + 1 + 1 : Nat) : Int) 1 = false := by rw [eqI_eq]; simp; omega
        simp +contextual -implicitDefEqProofs only [K55, SS, reduceAdd,reduceSub,reduceLeDiff,reduceEqDiff,reduceCtorEq, hvd', List.length_map, e1]
        exact WC.ret ⟨_, _, rfl, hgg, rfl⟩
      | [a] =>
        have ha := id_s a
        obtain ⟨un, uxs, ub, wk, wn, ws, wx, wy, gt, gv', gf⟩ := a.row_cells
        rw [gf] at ha
        simp +contextual -implicitDefEqProofs only [K55, SS, reduceAdd,reduceSub,reduceLeDiff,reduceEqDiff,reduceCtorEq, hvd', show eqI ((1 : Nat) : Int) 1 = true from rfl, gf]
        refine WC.call (ha _) rfl rfl ?_
        rintro _ st2 ⟨rfl, rfl⟩
        simp +contextual -implicitDefEqProofs only [K55, SS, reduceAdd,reduceSub,reduceLeDiff,reduceEqDiff,reduceCtorEq]
        exact WC.ret ⟨_, _, rfl, hgg, rfl⟩
    | false =>
      have hvd' : eqN vb [100, 101, 108, 101, 116, 101] = false := hvd
      have := change_args h1' hgg t ht as (by rw [TDef.row]; exact h7) h2' (v1 := .agg [.str nm, .list false (as.map FDef.row), .str tn, .list false txs, .bool tb, .bool has, .int .u8 vk, .int .i64 vn, .str vs, .list false vx, .list false vy]) (v5 := .str vb) (v6 := .str n) (v8 := .bool true) (v9 := .undef) (n := nm) (c2 := tn) (c3 := txs) (c4 := tb) (c5 := has) (c6 := vk) (c7 := vn) (c8 := vs) (c9 := vx) (c10 := vy)
      simp only [exec_seqK] at this
      revert this
      generalize a55s20 = X
      intro this
      simp +contextual -implicitDefEqProofs only [K55, SS, reduceAdd,reduceSub,reduceLeDiff,reduceEqDiff,reduceCtorEq, hvd']
      exact this
def rolesGo (l : List TDef) (t : TDef) : List FDef → Flt
  | [] => (0, [])
  | f :: fs => if !(if eqN t.n [81, 117, 101, 114, 121] then lookB l f || allB l f else (if eqN t.n [77, 117, 116, 97, 116, 105, 111, 110] then eqI t.k 1 && changeB l f else eqI (f.args.length : Int) 0)) then (3, f.name) else rolesGo l t fs
def rolesS (l : List TDef) (t : TDef) : Flt := if !eqI t.k 1 && !eqI t.k 2 then (0, []) else rolesGo l t t.fs
theorem roles_s {l : List TDef} {so : Nat} {t : TDef} (ht : t.OK) {st : St} (h : Sch l so st) : EvQ tbl 32 [.ptr so 0, .agg t.row] st (fun a st' => Gr st st' ∧ a = fltA (rolesS l t)) := by
  have hlf := ht.lf
  rw [TDef.row]
  have hS := rolesS.eq_1 l t
  refine EvQ.body (fn := a32) rfl rfl rfl ?_
  simp +contextual -implicitDefEqProofs only [K32, SS, reduceAdd,reduceSub,reduceLeDiff,reduceEqDiff,reduceCtorEq]
  refine WC.br (fun hx => ?_) (fun hx => ?_)
  · rw [if_pos hx] at hS
    simp +contextual -implicitDefEqProofs only [K32, SS, reduceAdd,reduceSub,reduceLeDiff,reduceEqDiff,reduceCtorEq]
    exact WC.ret ⟨_, _, rfl, Gr.refl _, by rw [hS]; rfl⟩
  rw [if_neg (by rw [hx]; decide)] at hS
  simp +contextual -implicitDefEqProofs only [K32, SS, reduceAdd,reduceSub,reduceLeDiff,reduceEqDiff,reduceCtorEq, List.length_map]
  refine WC.loopR (fun mm fr st' => Gr st st' ∧ ∃ (i : Nat) (v4 v5 v9 : AV), i ≤ t.fs.length ∧ mm = t.fs.length - i ∧ rolesGo l t t.fs = rolesGo l t (t.fs.drop i) ∧
    fr = [.ptr so 0, .agg [.int .u8 t.k, .str t.n, .list false (t.fs.map FDef.row), .list false (t.ns.map strRow)], .box [.int .u8 t.k, .str t.n, .list false (t.fs.map FDef.row), .list false (t.ns.map strRow)], .box [.int .i64 0, .str []], v4, v5, .list false (t.fs.map FDef.row), .int .i64 t.fs.length, .int .i64 i, v9]) (m := t.fs.length) ⟨Gr.refl _, 0, _, _, _, Nat.zero_le _, rfl, rfl, rfl⟩ ?_
  rintro mm fr st' ⟨hg', i, v4, v5, v9, hi, rfl, hgo, rfl⟩
  have hS' := h.gr hg'
  simp +contextual -implicitDefEqProofs only [K32, SS, reduceAdd,reduceSub,reduceLeDiff,reduceEqDiff,reduceCtorEq]
  by_cases hil : i < t.fs.length
  · have e2 : (t.fs.map FDef.row)[i]? = some (t.fs[i]).row := by rw [List.getElem?_map, List.getElem?_eq_getElem hil]; rfl
    rw [List.drop_eq_getElem_cons hil, rolesGo] at hgo
    revert hgo e2
    generalize t.fs[i] = a
    intro hgo e2
    obtain ⟨un, uxs, ub, wk, wn, ws, wx, wy, et, ev, ef⟩ := a.row_cells
    have i1 := look_s hS' a
    have i2 := all_s hS' a
    have i3 := change_s hS' a
    rw [ef] at i1 i2 i3
    rw [ef] at e2
    have inc := inc64 (show i + 1 < 2 ^ 63 by omega)
    have close : ∀ (b : Bool) (st3 : St) (v9 : AV), Gr st' st3 → rolesGo l t t.fs = (if !b then (3, a.name) else rolesGo l t (t.fs.drop (i + 1))) →
        WC (fun n => exec (callF tbl n) n ((ACode.blk 1 a32s31).seq a32s37) [.ptr so 0, .agg [.int .u8 t.k, .str t.n, .list false (t.fs.map FDef.row), .list false (t.ns.map strRow)], .box [.int .u8 t.k, .str t.n, .list false (t.fs.map FDef.row), .list false (t.ns.map strRow)], .box [.int .i64 0, .str []], .box [.str a.name, .list false (a.args.map FDef.row), .str un, .list false uxs, .bool ub, .bool a.has, .int .u8 wk, .int .i64 wn, .str ws, .list false wx, .list false wy], .bool b, .list false (t.fs.map FDef.row), .int .i64 t.fs.length, .int .i64 i, v9] st3)
          (LQ (fun mm fr st' => Gr st st' ∧ ∃ (i : Nat) (v4 v5 v9 : AV), i ≤ t.fs.length ∧ mm = t.fs.length - i ∧ rolesGo l t t.fs = rolesGo l t (t.fs.drop i) ∧
    fr = [.ptr so 0, .agg [.int .u8 t.k, .str t.n, .list false (t.fs.map FDef.row), .list false (t.ns.map strRow)], .box [.int .u8 t.k, .str t.n, .list false (t.fs.map FDef.row), .list false (t.ns.map strRow)], .box [.int .i64 0, .str []], v4, v5, .list false (t.fs.map FDef.row), .int .i64 t.fs.length, .int .i64 i, v9]) (t.fs.length - i) (fun n => seqC (blkC 0 some) (exec (callF tbl n) n (a32s44.seq ACode.ret))) (fun o => ∃ r st', finK [ResK.bx 3 true 2] (some o) = some (r, st') ∧ Gr st st' ∧ r = fltA (rolesS l t))) := by
      intro b st3 v9 hg3 hgo
      cases b with
      | false =>
        rw [if_pos (show (!false) = true from rfl)] at hgo
        simp +contextual -implicitDefEqProofs only [K32, SS, reduceAdd,reduceSub,reduceLeDiff,reduceEqDiff,reduceCtorEq]
        refine WC.leaveR ?_
        simp +contextual -implicitDefEqProofs only [K32, SS, reduceAdd,reduceSub,reduceLeDiff,reduceEqDiff,reduceCtorEq]
        exact WC.ret ⟨_, _, rfl, hg'.trans hg3, by rw [hS, hgo]; rfl⟩
      | true =>
        rw [if_neg (show ¬ (!true) = true by decide)] at hgo
        simp +contextual -implicitDefEqProofs only [K32, SS, reduceAdd,reduceSub,reduceLeDiff,reduceEqDiff,reduceCtorEq, inc]
        exact WC.next (m' := t.fs.length - (i + 1)) (by omega) ⟨hg'.trans hg3, i + 1, _, _, _, hil, rfl, hgo, rfl⟩
    simp +contextual -implicitDefEqProofs only [K32, SS, reduceAdd,reduceSub,reduceLeDiff,reduceEqDiff,reduceCtorEq, hil, e2, List.length_map]
    refine WC.br (fun hq => ?_) (fun hq => ?_)
    · rw [if_pos (show eqN t.n [81, 117, 101, 114, 121] = true from hq)] at hgo
      simp +contextual -implicitDefEqProofs only [K32, SS, reduceAdd,reduceSub,reduceLeDiff,reduceEqDiff,reduceCtorEq]
      refine WC.call i1 rfl rfl ?_
      rintro _ st3 ⟨rfl, rfl⟩
      cases hlk : lookB l a with
      | true =>
        rw [hlk] at hgo
        have := close true st3 (.str t.n) (Gr.refl _) hgo
        simp +contextual -implicitDefEqProofs only [K32, SS, reduceAdd,reduceSub,reduceLeDiff,reduceEqDiff,reduceCtorEq] at this ⊢
        exact this
      | false =>
        rw [hlk, Bool.false_or] at hgo
        simp +contextual -implicitDefEqProofs only [K32, SS, reduceAdd,reduceSub,reduceLeDiff,reduceEqDiff,reduceCtorEq]
        refine WC.call i2 rfl rfl ?_
        rintro _ st3 ⟨rfl, rfl⟩
        have := close (allB l a) st3 (.str t.n) (Gr.refl _) hgo
        simp +contextual -implicitDefEqProofs only [K32, SS, reduceAdd,reduceSub,reduceLeDiff,reduceEqDiff,reduceCtorEq] at this ⊢
        exact this
    rw [if_neg (show ¬ eqN t.n [81, 117, 101, 114, 121] = true by rw [hq]; decide)] at hgo
    simp +contextual -implicitDefEqProofs only [K32, SS, reduceAdd,reduceSub,reduceLeDiff,reduceEqDiff,reduceCtorEq]
    refine WC.br (fun hm => ?_) (fun hm => ?_)
    · rw [if_pos (show eqN t.n [77, 117, 116, 97, 116, 105, 111, 110] = true from hm)] at hgo
      cases hk1 : eqI t.k 1 with
      | false =>
        rw [hk1, Bool.false_and] at hgo
        have := close false st' (.str t.n) (Gr.refl _) hgo
        simp +contextual -implicitDefEqProofs only [K32, SS, reduceAdd,reduceSub,reduceLeDiff,reduceEqDiff,reduceCtorEq, hk1] at this ⊢
        exact this
      | true =>
        rw [hk1, Bool.true_and] at hgo
        simp +contextual -implicitDefEqProofs only [K32, SS, reduceAdd,reduceSub,reduceLeDiff,reduceEqDiff,reduceCtorEq, hk1]
        refine WC.call i3 rfl rfl ?_
        rintro _ st3 ⟨hg3, rfl⟩
        have := close (changeB l a) st3 (.str t.n) hg3 hgo
        simp +contextual -implicitDefEqProofs only [K32, SS, reduceAdd,reduceSub,reduceLeDiff,reduceEqDiff,reduceCtorEq] at this ⊢
        exact this
    · rw [if_neg (show ¬ eqN t.n [77, 117, 116, 97, 116, 105, 111, 110] = true by rw [hm]; decide)] at hgo
      have := close (eqI (a.args.length : Int) 0) st' (.str t.n) (Gr.refl _) hgo
      simp +contextual -implicitDefEqProofs only [K32, SS, reduceAdd,reduceSub,reduceLeDiff,reduceEqDiff,reduceCtorEq] at this ⊢
      exact this
  · rw [List.drop_of_length_le (by omega), rolesGo] at hgo
    simp +contextual -implicitDefEqProofs only [K32, SS, reduceAdd,reduceSub,reduceLeDiff,reduceEqDiff,reduceCtorEq, hil]
    refine WC.leave ?_
    simp +contextual -implicitDefEqProofs only [K32, SS, reduceAdd,reduceSub,reduceLeDiff,reduceEqDiff,reduceCtorEq]
    exact WC.ret ⟨_, _, rfl, hg', by rw [hS, hgo]; rfl⟩
end Go.Cb.CodeA
set_option maxRecDepth 20000
set_option linter.unusedSimpArgs false
set_option linter.unusedVariables false
namespace Go.Cb.CodeA
open Go Go.Cb
open Nat (reduceAdd reduceSub reduceLeDiff reduceEqDiff)
attribute [local congr] obind_congr gv_congr2 gv2_congr brT_congr seqK_congr blkK_congr m1_congr gm_congr

theorem ents_app (t : TDef) : ∀ (a : List TDef) (i : Nat), entsFrom (a ++ [t]) i = entsFrom a i ++ [(.str t.n, .int .i64 ((i + a.length : Nat) : Int))]
  | [], i => rfl
  | u :: a, i => by
    simp only [List.cons_append, entsFrom, ents_app t a (i + 1), List.length_cons]
    rw [show i + 1 + a.length = i + (a.length + 1) by omega]
theorem lk_isSome (l : List TDef) (n : List Nat) (i : Nat) : (lkI l n i).isSome = (lk l n).isSome := by
  cases h : lkI l n i with
  | none => rw [lkI_none n l i h]; rfl
  | some j => obtain ⟨_, t, _, _, h2⟩ := lkI_some n l i j h; rw [h2]; rfl

def declGo : List TDef → List TDef → Flt
  | _, [] => (0, [])
  | seen, t :: ts => if (lk seen t.n).isSome || scalarB t.n then (7, t.n) else (if beginsN t.n [95, 95] then (1, t.n) else declGo (seen ++ [t]) ts)
def checkGo (l : List TDef) : List TDef → Flt
  | [] => (0, [])
  | t :: ts => if !eqI (checkS l t).1 0 then checkS l t else checkGo l ts
def rolesLo (l : List TDef) : List TDef → Flt
  | [] => (0, [])
  | t :: ts => if !eqI (rolesS l t).1 0 then rolesS l t else rolesLo l ts
def queryN : List Nat := [81, 117, 101, 114, 121]
def behind (l : List TDef) : Flt := if !eqI (checkGo l l).1 0 then checkGo l l
  else (if !(lk l queryN).isSome || !eqI ((lk l queryN).getD TDef.zero).k 1 then (6, queryN)
  else rolesLo l l)
def buildS (l : List TDef) : Flt := if !eqI (declGo [] l).1 0 then declGo [] l else behind l

/-- what Build answers -/
def BuildA (l : List TDef) (st : St) (a : AV) (st' : St) : Prop := Gr st st' ∧ (((buildS l).1 = 0 ∧ ∃ so, Sch l so st' ∧ a = .tuple [.ptr so 0, .str [], .int .i64 0]) ∨ ((buildS l).1 ≠ 0 ∧ a = .tuple [.nilp, .str (buildS l).2, .int .i64 (buildS l).1]))
def buildQ (l : List TDef) (st : St) (o : Out) : Prop := ∃ r st', finK [ResK.v 1, ResK.v 2, ResK.v 3] (some o) = some (r, st') ∧ BuildA l st r st'
theorem mset_e (call : CallT) (bx : AV) (st : St) (o : Nat) (n : List Nat) (i : Int) : semMset 1 call [.map o, .str n, .int .i64 i] bx st =
    match st[o]? with
    | some (.map es) => (match mfind 1 (.str n) es 0 with
      | some (some (j, _)) => some (.tuple [], bx, st.set o (.map (es.set j (.str n, .int .i64 i))))
      | some none => some (.tuple [], bx, st.set o (.map (es ++ [(.str n, .int .i64 i)])))
      | none => none)
    | _ => none := by
  unfold semMset
  simp only [AV.plain, if_true, AV.weak, eqKey, Option.bind_some]
  rfl
theorem build_roles {l : List TDef} {so : Nat} {st0 st : St} (h : Sch l so st) (hg : Gr st0 st) (hS : buildS l = rolesLo l l) {v2 v3 v5 v6 v7 v8 v9 v10 v11 v12 v13 v14 v15 v16 v17 v18 v19 v20 v21 v22 : AV} :
    WC (fun n => exec (callF tbl n) n ((a10s68.seq (ACode.blk 4 (a10s70.seq ((ACode.blk 5 (a10s72.seq (a10s74.seq a10s79))).seq a10s84)).loop)).seq (a10s91.seq ACode.ret)) [.list false (l.map TDef.row), .nilp, v2, v3, .ptr so 0, v5, v6, v7, v8, v9, v10, v11, v12, v13, v14, v15, v16, v17, v18, v19, v20, v21, v22] st) (buildQ l st0) := by
  have hl := h.len
  simp +contextual -implicitDefEqProofs only [K10, SS, reduceAdd,reduceSub,reduceLeDiff,reduceEqDiff,reduceCtorEq, List.length_map]
  refine WC.loopR (fun mm fr st' => Gr st st' ∧ ∃ (i : Nat) (v12 v13 : AV), i ≤ l.length ∧ mm = l.length - i ∧ rolesLo l l = rolesLo l (l.drop i) ∧
    fr = [.list false (l.map TDef.row), .nilp, v2, v3, .ptr so 0, v5, v6, v7, v8, v9, v10, v11, v12, v13, v14, v15, v16, v17, v18, v19, .list false (l.map TDef.row), .int .i64 l.length, .int .i64 i]) (m := l.length) ⟨Gr.refl _, 0, _, _, Nat.zero_le _, rfl, rfl, rfl⟩ ?_
  rintro mm fr st' ⟨hg', i, v12, v13, hi, rfl, hgo, rfl⟩
  have h' := h.gr hg'
  simp +contextual -implicitDefEqProofs only [K10, SS, reduceAdd,reduceSub,reduceLeDiff,reduceEqDiff,reduceCtorEq]
  by_cases hil : i < l.length
  · have e2 : (l.map TDef.row)[i]? = some (l[i]).row := by rw [List.getElem?_map, List.getElem?_eq_getElem hil]; rfl
    have hok := h.ok _ (List.getElem_mem hil)
    rw [List.drop_eq_getElem_cons hil, rolesLo] at hgo
    revert hgo e2 hok
    generalize l[i] = t
    intro hgo e2 hok
    have i1 := roles_s hok h'
    rw [TDef.row] at i1 e2
    simp +contextual -implicitDefEqProofs only [K10, SS, reduceAdd,reduceSub,reduceLeDiff,reduceEqDiff,reduceCtorEq, hil, e2]
    refine WC.call i1 rfl rfl ?_
    rintro _ st3 ⟨hg3, rfl⟩
    simp +contextual -implicitDefEqProofs only [K10, SS, reduceAdd,reduceSub,reduceLeDiff,reduceEqDiff,reduceCtorEq, fltA_cells]
    refine WC.br (fun hx => ?_) (fun hx => ?_)
    · rw [if_pos hx] at hgo
      simp +contextual -implicitDefEqProofs only [K10, SS, reduceAdd,reduceSub,reduceLeDiff,reduceEqDiff,reduceCtorEq]
      refine WC.leaveR ?_
      simp +contextual -implicitDefEqProofs only [K10, SS, reduceAdd,reduceSub,reduceLeDiff,reduceEqDiff,reduceCtorEq]
      have hne : (buildS l).1 ≠ 0 := by rw [hS, hgo]; rw [eqI_eq] at hx; simpa using hx
      exact WC.ret ⟨_, _, rfl, (hg.trans hg').trans hg3, Or.inr ⟨hne, by rw [hS, hgo]; rfl⟩⟩
    · rw [if_neg (by rw [hx]; decide)] at hgo
      simp +contextual -implicitDefEqProofs only [K10, SS, reduceAdd,reduceSub,reduceLeDiff,reduceEqDiff,reduceCtorEq, inc64 (show i + 1 < 2 ^ 63 by omega)]
      exact WC.next (m' := l.length - (i + 1)) (by omega) ⟨hg'.trans hg3, i + 1, _, _, hil, rfl, hgo, rfl⟩
  · rw [List.drop_of_length_le (by omega), rolesLo] at hgo
    simp +contextual -implicitDefEqProofs only [K10, SS, reduceAdd,reduceSub,reduceLeDiff,reduceEqDiff,reduceCtorEq, hil]
    refine WC.leave ?_
    simp +contextual -implicitDefEqProofs only [K10, SS, reduceAdd,reduceSub,reduceLeDiff,reduceEqDiff,reduceCtorEq]
    exact WC.ret ⟨_, _, rfl, hg.trans hg', Or.inl ⟨by rw [hS, hgo], so, h', rfl⟩⟩
theorem build_check {l : List TDef} {so : Nat} {st0 st : St} (h : Sch l so st) (hg : Gr st0 st) (hS : buildS l = behind l) {v2 v3 v5 v6 v7 v8 v9 v10 v11 v12 v13 v14 v15 v16 v17 v18 v19 v20 v21 v22 : AV} :
    WC (fun n => exec (callF tbl n) n ((a10s37.seq (ACode.blk 2 (a10s39.seq ((ACode.blk 3 (a10s41.seq (a10s43.seq a10s48))).seq a10s53)).loop)).seq ((a10s60.seq a10s65).seq ((a10s68.seq (ACode.blk 4 (a10s70.seq ((ACode.blk 5 (a10s72.seq (a10s74.seq a10s79))).seq a10s84)).loop)).seq (a10s91.seq ACode.ret)))) [.list false (l.map TDef.row), .nilp, v2, v3, .ptr so 0, v5, v6, v7, v8, v9, v10, v11, v12, v13, v14, v15, v16, v17, v18, v19, v20, v21, v22] st) (buildQ l st0) := by
  have hl := h.len
  unfold behind at hS
  simp +contextual -implicitDefEqProofs only [K10, SS, reduceAdd,reduceSub,reduceLeDiff,reduceEqDiff,reduceCtorEq, List.length_map]
  refine WC.loopR (fun mm fr st' => Gr st st' ∧ ∃ (i : Nat) (v8 v9 : AV), i ≤ l.length ∧ mm = l.length - i ∧ checkGo l l = checkGo l (l.drop i) ∧
    fr = [.list false (l.map TDef.row), .nilp, v2, v3, .ptr so 0, v5, v6, v7, v8, v9, v10, v11, v12, v13, v14, v15, v16, .list false (l.map TDef.row), .int .i64 l.length, .int .i64 i, v20, v21, v22]) (m := l.length) ⟨Gr.refl _, 0, _, _, Nat.zero_le _, rfl, rfl, rfl⟩ ?_
  rintro mm fr st' ⟨hg', i, v8, v9, hi, rfl, hgo, rfl⟩
  have h' := h.gr hg'
  simp +contextual -implicitDefEqProofs only [K10, SS, reduceAdd,reduceSub,reduceLeDiff,reduceEqDiff,reduceCtorEq]
  by_cases hil : i < l.length
  · have e2 : (l.map TDef.row)[i]? = some (l[i]).row := by rw [List.getElem?_map, List.getElem?_eq_getElem hil]; rfl
    have hok := h.ok _ (List.getElem_mem hil)
    rw [List.drop_eq_getElem_cons hil, checkGo] at hgo
    revert hgo e2 hok
    generalize l[i] = t
    intro hgo e2 hok
    have i1 := check_s hok h'
    rw [TDef.row] at i1 e2
    simp +contextual -implicitDefEqProofs only [K10, SS, reduceAdd,reduceSub,reduceLeDiff,reduceEqDiff,reduceCtorEq, hil, e2]
    refine WC.call i1 rfl rfl ?_
    rintro _ st3 ⟨hg3, rfl⟩
    simp +contextual -implicitDefEqProofs only [K10, SS, reduceAdd,reduceSub,reduceLeDiff,reduceEqDiff,reduceCtorEq, fltA_cells]
    refine WC.br (fun hx => ?_) (fun hx => ?_)
    · rw [if_pos hx] at hgo
      rw [hgo, if_pos hx] at hS
      simp +contextual -implicitDefEqProofs only [K10, SS, reduceAdd,reduceSub,reduceLeDiff,reduceEqDiff,reduceCtorEq]
      refine WC.leaveR ?_
      simp +contextual -implicitDefEqProofs only [K10, SS, reduceAdd,reduceSub,reduceLeDiff,reduceEqDiff,reduceCtorEq]
      have hne : (buildS l).1 ≠ 0 := by rw [hS]; rw [eqI_eq] at hx; simpa using hx
      exact WC.ret ⟨_, _, rfl, (hg.trans hg').trans hg3, Or.inr ⟨hne, by rw [hS]; rfl⟩⟩
    · rw [if_neg (by rw [hx]; decide)] at hgo
      simp +contextual -implicitDefEqProofs only [K10, SS, reduceAdd,reduceSub,reduceLeDiff,reduceEqDiff,reduceCtorEq, inc64 (show i + 1 < 2 ^ 63 by omega)]
      exact WC.next (m' := l.length - (i + 1)) (by omega) ⟨hg'.trans hg3, i + 1, _, _, hil, rfl, hgo, rfl⟩
  · rw [List.drop_of_length_le (by omega), checkGo] at hgo
    rw [hgo] at hS
    have hS2 : buildS l = (if !(lk l queryN).isSome || !eqI ((lk l queryN).getD TDef.zero).k 1 then (6, queryN) else rolesLo l l) := hS
    simp +contextual -implicitDefEqProofs only [K10, SS, reduceAdd,reduceSub,reduceLeDiff,reduceEqDiff,reduceCtorEq, hil]
    refine WC.leave ?_
    have ht := type_s h' queryN
    unfold queryN at ht
    have hfin := fun {v8 v9 v10 v11 : AV} (hS3 : buildS l = rolesLo l l) => build_roles h' (hg.trans hg') hS3 (v2 := v2) (v3 := v3) (v5 := v5) (v6 := v6) (v7 := v7) (v8 := v8) (v9 := v9) (v10 := v10) (v11 := v11) (v12 := v12) (v13 := v13) (v14 := v14) (v15 := v15) (v16 := v16) (v17 := .list false (l.map TDef.row)) (v18 := .int .i64 l.length) (v19 := .int .i64 i) (v20 := v20) (v21 := v21) (v22 := v22)
    revert hfin
    generalize a10s68 = X
    intro hfin
    simp +contextual -implicitDefEqProofs only [K10, SS, reduceAdd,reduceSub,reduceLeDiff,reduceEqDiff,reduceCtorEq]
    refine WC.call ht rfl rfl ?_
    rintro _ st' ⟨rfl, rfl⟩
    unfold queryN at hS2
    revert hS2
    unfold typeA
    generalize (lk l [81, 117, 101, 114, 121]).isSome = q
    generalize (lk l [81, 117, 101, 114, 121]).getD TDef.zero = d
    intro hS2
    cases q with
    | false =>
      rw [if_pos (by simp)] at hS2
      simp +contextual -implicitDefEqProofs only [K10, SS, reduceAdd,reduceSub,reduceLeDiff,reduceEqDiff,reduceCtorEq, TDef.row]
      have hne : (buildS l).1 ≠ 0 := by rw [hS2]; decide
      exact WC.ret ⟨_, _, rfl, hg.trans hg', Or.inr ⟨hne, by rw [hS2]; rfl⟩⟩
    | true =>
      cases hk : eqI d.k 1 with
      | false =>
        rw [if_pos (by rw [hk]; simp)] at hS2
        simp +contextual -implicitDefEqProofs only [K10, SS, reduceAdd,reduceSub,reduceLeDiff,reduceEqDiff,reduceCtorEq, TDef.row, hk]
        have hne : (buildS l).1 ≠ 0 := by rw [hS2]; decide
        exact WC.ret ⟨_, _, rfl, hg.trans hg', Or.inr ⟨hne, by rw [hS2]; rfl⟩⟩
      | true =>
        rw [if_neg (by rw [hk]; decide)] at hS2
        have := hfin (v8 := v8) (v9 := v9) (v10 := .box [.int .u8 d.k, .str d.n, .list false (d.fs.map FDef.row), .list false (d.ns.map strRow)]) (v11 := .bool true) hS2
        simp +contextual -implicitDefEqProofs only [K10, SS, reduceAdd,reduceSub,reduceLeDiff,reduceEqDiff,reduceCtorEq, TDef.row, hk] at this ⊢
        exact this
theorem build_s (l : List TDef) (hl : l.length ≤ 3001) (hok : ∀ t ∈ l, t.OK) (st : St) : EvQ tbl 10 [.list false (l.map TDef.row)] st (fun a st' => BuildA l st a st') := by
  refine EvQ.body (fn := a10) rfl rfl rfl ?_
  show WC _ (buildQ l st)
  have hclone : EvQ tbl 28 [.list false (l.map TDef.row)] st (fun a st' => st' = st ∧ a = .list true (l.map TDef.row)) := by
    refine EvQ.of_ext (fn := a28) (r := (.list true (l.map TDef.row), st)) rfl rfl ?_ ⟨rfl, rfl⟩
    simp only [cloneX, rowsT, List.length_map, Bool.true_and]
    rw [if_pos (by simp; omega)]
  simp +contextual -implicitDefEqProofs only [K10, SS, reduceAdd,reduceSub,reduceLeDiff,reduceEqDiff,reduceCtorEq]
  refine WC.call hclone rfl rfl ?_
  rintro _ st ⟨rfl, rfl⟩
  simp +contextual -implicitDefEqProofs only [K10, SS, reduceAdd,reduceSub,reduceLeDiff,reduceEqDiff,reduceCtorEq, List.length_map]
  have g1 : ∀ es : List (AV × AV), (st ++ [Obj.map es] ++ [Obj.cells [AV.list false (l.map TDef.row), AV.map st.length]])[st.length]? = some (.map es) := fun es => by simp
  have g2 : ∀ es : List (AV × AV), (st ++ [Obj.map es] ++ [Obj.cells [AV.list false (l.map TDef.row), AV.map st.length]])[(st ++ [Obj.map []]).length]? = some (Obj.cells [AV.list false (l.map TDef.row), AV.map st.length]) := fun es => by simp
  have g3 : ∀ es es' : List (AV × AV), (st ++ [Obj.map es] ++ [Obj.cells [AV.list false (l.map TDef.row), AV.map st.length]]).set st.length (.map es') = st ++ [Obj.map es'] ++ [Obj.cells [AV.list false (l.map TDef.row), AV.map st.length]] := fun es es' => by simp
  have g4 : ∀ es : List (AV × AV), Gr st (st ++ [Obj.map es] ++ [Obj.cells [AV.list false (l.map TDef.row), AV.map st.length]]) := fun es => (Gr.app _ _).trans (Gr.app _ _)
  refine WC.loopR (fun mm fr st' => ∃ (i : Nat) (v5 v6 v7 : AV), i ≤ l.length ∧ mm = l.length - i ∧ declGo [] l = declGo (l.take i) (l.drop i) ∧ st' = st ++ [Obj.map (entsFrom (l.take i) 0)] ++ [Obj.cells [AV.list false (l.map TDef.row), AV.map st.length]] ∧
    fr = [.list false (l.map TDef.row), .nilp, .str [], .int .i64 0, .ptr (st ++ [Obj.map []]).length 0, v5, v6, v7, .undef, .undef, .undef, .undef, .undef, .undef, .list false (l.map TDef.row), .int .i64 l.length, .int .i64 i, .undef, .undef, .undef, .undef, .undef, .undef]) (m := l.length) ⟨0, _, _, _, Nat.zero_le _, rfl, rfl, rfl, rfl⟩ ?_
  rintro mm fr st' ⟨i, v5, v6, v7, hi, rfl, hgo, rfl, rfl⟩
  simp +contextual -implicitDefEqProofs only [K10, SS, reduceAdd,reduceSub,reduceLeDiff,reduceEqDiff,reduceCtorEq]
  by_cases hil : i < l.length
  · have e2 : (l.map TDef.row)[i]? = some (l[i]).row := by rw [List.getElem?_map, List.getElem?_eq_getElem hil]; rfl
    have e3 : l.take (i + 1) = l.take i ++ [l[i]] := by rw [List.take_add_one, List.getElem?_eq_getElem hil]; rfl
    have e4 : (l.take i).length = i := by simp; omega
    rw [List.drop_eq_getElem_cons hil, declGo] at hgo
    revert hgo e2 e3
    generalize l[i] = t
    intro hgo e2 e3
    rw [TDef.row] at e2
    have hm := mfind_ents t.n (l.take i) 0
    have hsome := lk_isSome (l.take i) t.n 0
    cases hj : lkI (l.take i) t.n 0 with
    | some j =>
      rw [hj] at hm hsome
      rw [← hsome, if_pos (by rfl)] at hgo
      simp only [Option.map_some] at hm
      simp +contextual -implicitDefEqProofs only [K10, SS, reduceAdd,reduceSub,reduceLeDiff,reduceEqDiff,reduceCtorEq, hil, e2, g2, mget_e, g1, hm, Option.isSome_some]
      refine WC.leaveR ?_
      simp +contextual -implicitDefEqProofs only [K10, SS, reduceAdd,reduceSub,reduceLeDiff,reduceEqDiff,reduceCtorEq]
      have hb : buildS l = (7, t.n) := by rw [buildS, hgo]; rfl
      exact WC.ret ⟨_, _, rfl, g4 _, Or.inr ⟨by rw [hb]; simp, by rw [hb]; rfl⟩⟩
    | none =>
      rw [hj] at hm hsome
      rw [← hsome, Option.isSome_none, Bool.false_or] at hgo
      simp only [Option.map_none] at hm
      simp +contextual -implicitDefEqProofs only [K10, SS, reduceAdd,reduceSub,reduceLeDiff,reduceEqDiff,reduceCtorEq, hil, e2, g2, mget_e, g1, hm, Option.isSome_none, chunks]
      refine WC.call (contains_q scalars (by decide) t.n _) rfl rfl ?_
      rintro _ _ ⟨hst, rfl⟩
      subst hst
      simp +contextual -implicitDefEqProofs only [K10, SS, reduceAdd,reduceSub,reduceLeDiff,reduceEqDiff,reduceCtorEq]
      refine WC.br (fun hx => ?_) (fun hx => ?_)
      · rw [if_pos (show scalarB t.n = true from hx)] at hgo
        simp +contextual -implicitDefEqProofs only [K10, SS, reduceAdd,reduceSub,reduceLeDiff,reduceEqDiff,reduceCtorEq]
        refine WC.leaveR ?_
        simp +contextual -implicitDefEqProofs only [K10, SS, reduceAdd,reduceSub,reduceLeDiff,reduceEqDiff,reduceCtorEq]
        have hb : buildS l = (7, t.n) := by rw [buildS, hgo]; rfl
        exact WC.ret ⟨_, _, rfl, g4 _, Or.inr ⟨by rw [hb]; simp, by rw [hb]; rfl⟩⟩
      rw [if_neg (show ¬ scalarB t.n = true by rw [show scalarB t.n = false from hx]; decide)] at hgo
      simp +contextual -implicitDefEqProofs only [K10, SS, reduceAdd,reduceSub,reduceLeDiff,reduceEqDiff,reduceCtorEq]
      refine WC.call (hasPrefix_q t.n _ _) rfl rfl ?_
      rintro _ _ ⟨hst, rfl⟩
      subst hst
      simp +contextual -implicitDefEqProofs only [K10, SS, reduceAdd,reduceSub,reduceLeDiff,reduceEqDiff,reduceCtorEq]
      refine WC.br (fun hx => ?_) (fun hx => ?_)
      · rw [if_pos hx] at hgo
        simp +contextual -implicitDefEqProofs only [K10, SS, reduceAdd,reduceSub,reduceLeDiff,reduceEqDiff,reduceCtorEq]
        refine WC.leaveR ?_
        simp +contextual -implicitDefEqProofs only [K10, SS, reduceAdd,reduceSub,reduceLeDiff,reduceEqDiff,reduceCtorEq]
        have hb : buildS l = (1, t.n) := by rw [buildS, hgo]; rfl
        exact WC.ret ⟨_, _, rfl, g4 _, Or.inr ⟨by rw [hb]; simp, by rw [hb]; rfl⟩⟩
      rw [if_neg (by rw [hx]; decide)] at hgo
      simp +contextual -implicitDefEqProofs only [K10, SS, reduceAdd,reduceSub,reduceLeDiff,reduceEqDiff,reduceCtorEq, g2, g1, mset_e, hm, g3, inc64 (show i + 1 < 2 ^ 63 by omega)]
      refine WC.next (m' := l.length - (i + 1)) (by omega) ⟨i + 1, _, _, _, hil, rfl, by rw [hgo, e3], ?_, rfl⟩
      rw [e3, ents_app, e4, Nat.zero_add]
  · rw [List.drop_of_length_le (by omega), declGo] at hgo
    have hbe : buildS l = behind l := by rw [buildS, hgo]; rfl
    rw [List.take_of_length_le (by omega)] at *
    have hSch : Sch l (st ++ [Obj.map []]).length (st ++ [Obj.map (entsFrom l 0)] ++ [Obj.cells [AV.list false (l.map TDef.row), AV.map st.length]]) := ⟨hl, hok, _, _, g2 _, g1 _⟩
    have := build_check hSch (g4 _) hbe (v2 := .str []) (v3 := .int .i64 0) (v5 := v5) (v6 := v6) (v7 := v7) (v8 := .undef) (v9 := .undef) (v10 := .undef) (v11 := .undef) (v12 := .undef) (v13 := .undef) (v14 := .list false (l.map TDef.row)) (v15 := .int .i64 l.length) (v16 := .int .i64 i) (v17 := .undef) (v18 := .undef) (v19 := .undef) (v20 := .undef) (v21 := .undef) (v22 := .undef)
    simp +contextual -implicitDefEqProofs only [K10, SS, reduceAdd,reduceSub,reduceLeDiff,reduceEqDiff,reduceCtorEq, hil]
    refine WC.leave ?_
    simp only [seqC_x, blkC_x, blkK_some, blkOut_exit, if_true, seqK_normal]
    exact this
end Go.Cb.CodeA
/- What functions of the abstract machine answer. No conditions but those that each theorem names. -/
set_option maxRecDepth 20000
set_option linter.unusedSimpArgs false
set_option linter.unusedVariables false
namespace Go.Cb.CodeA
open Go Go.Cb
attribute [local congr] obind_congr gv_congr2 gv2_congr brT_congr seqK_congr blkK_congr m1_congr gm_congr

theorem eqN_refl (n : List Nat) : eqN n n = true := by rw [eqN_eq]; simp
theorem declGo_twice (t : TDef) : ∀ (l seen : List TDef), (declGo seen l).1 = 0 → (lk (seen ++ l) t.n).isSome = true → declGo seen (l ++ [t]) = (7, t.n)
  | [], seen, _, h => by
    rw [List.append_nil] at h
    simp only [List.nil_append, declGo, h, Bool.true_or, if_true]
  | u :: l, seen, h0, h => by
    rw [List.cons_append, declGo]
    rw [declGo] at h0
    by_cases h1 : ((lk seen u.n).isSome || scalarB u.n) = true
    · rw [if_pos h1] at h0; simp at h0
    · rw [if_neg h1] at h0 ⊢
      by_cases h2 : beginsN u.n [95, 95] = true
      · rw [if_pos h2] at h0; simp at h0
      · rw [if_neg h2] at h0 ⊢
        exact declGo_twice t l (seen ++ [u]) h0 (by rw [List.append_assoc]; exact h)
end Go.Cb.CodeA
set_option maxRecDepth 20000
set_option linter.unusedSimpArgs false
set_option linter.unusedVariables false
namespace Go.Cb.CodeA
open Go Go.Cb
open Nat (reduceAdd reduceSub reduceLeDiff reduceEqDiff)
attribute [local congr] obind_congr gv_congr2 gv2_congr brT_congr seqK_congr blkK_congr m1_congr gm_congr

def oneOf (n : List Nat) (u : TDef) : Bool := eqI u.k 1 && hasN u.ns n
/-- of which types a thing of a type may be -/
def possS (l : List TDef) (n : List Nat) : List (List Nat) := match lk l n with
  | none => []
  | some t => if eqI t.k 1 then [n] else (if eqI t.k 3 then t.ns else (if !eqI t.k 2 then [] else (l.filter (oneOf n)).map (fun u => u.n)))
theorem poss_s {l : List TDef} {so : Nat} {st : St} (h : Sch l so st) (n : List Nat) : EvQ tbl 11 [.ptr so 0, .str n] st (fun a st' => st' = st ∧ a = .list false ((possS l n).map strRow)) := by
  have hlen := h.len
  have hd := lk_ok h n
  unfold possS
  refine EvQ.body (fn := a11) rfl rfl rfl ?_
  simp +contextual -implicitDefEqProofs only [K11, SS, reduceAdd,reduceSub,reduceLeDiff,reduceEqDiff,reduceCtorEq]
  refine WC.call (type_s h n) rfl rfl ?_
  rintro _ st ⟨rfl, rfl⟩
  revert hd
  cases hl : lk l n with
  | none =>
    intro hd
    simp +contextual -implicitDefEqProofs only [K11, SS, reduceAdd,reduceSub,reduceLeDiff,reduceEqDiff,reduceCtorEq, typeA, Option.getD_none, TDef.zero, TDef.row, Option.isSome_none]
    exact WC.ret ⟨_, _, rfl, rfl, rfl⟩
  | some t =>
    rw [Option.getD_some]
    intro hd
    have hln := hd.ln
    have ho := h.ob
    obtain ⟨w, mo, h1, h2⟩ := ho
    simp +contextual -implicitDefEqProofs only [K11, SS, reduceAdd,reduceSub,reduceLeDiff,reduceEqDiff,reduceCtorEq, typeA, Option.getD_some, TDef.row, Option.isSome_some]
    refine WC.br (fun hk => ?_) (fun hk => ?_)
    · rw [if_pos hk]
      simp +contextual -implicitDefEqProofs only [K11, SS, reduceAdd,reduceSub,reduceLeDiff,reduceEqDiff,reduceCtorEq]
      exact WC.ret ⟨_, _, rfl, rfl, rfl⟩
    rw [if_neg (by rw [hk]; decide)]
    simp +contextual -implicitDefEqProofs only [K11, SS, reduceAdd,reduceSub,reduceLeDiff,reduceEqDiff,reduceCtorEq]
    refine WC.br (fun hk => ?_) (fun hk => ?_)
    · rw [if_pos hk]
      have hclone : EvQ tbl 33 [.list false (t.ns.map strRow)] st (fun a st' => st' = st ∧ a = .list true (t.ns.map strRow)) := by
        refine EvQ.of_ext (fn := a33) (r := (.list true (t.ns.map strRow), st)) rfl rfl ?_ ⟨rfl, rfl⟩
        simp only [cloneX, rowsStr, List.length_map, Bool.true_and]
        rw [if_pos (by simp; omega)]
      simp +contextual -implicitDefEqProofs only [K11, SS, reduceAdd,reduceSub,reduceLeDiff,reduceEqDiff,reduceCtorEq]
      refine WC.call hclone rfl rfl ?_
      rintro _ st ⟨rfl, rfl⟩
      simp +contextual -implicitDefEqProofs only [K11, SS, reduceAdd,reduceSub,reduceLeDiff,reduceEqDiff,reduceCtorEq]
      exact WC.ret ⟨_, _, rfl, rfl, rfl⟩
    rw [if_neg (by rw [hk]; decide)]
    simp +contextual -implicitDefEqProofs only [K11, SS, reduceAdd,reduceSub,reduceLeDiff,reduceEqDiff,reduceCtorEq]
    refine WC.br (fun hk => ?_) (fun hk => ?_)
    · rw [if_pos hk]
      simp +contextual -implicitDefEqProofs only [K11, SS, reduceAdd,reduceSub,reduceLeDiff,reduceEqDiff,reduceCtorEq]
      exact WC.ret ⟨_, _, rfl, rfl, rfl⟩
    rw [if_neg (by rw [hk]; decide)]
    simp +contextual -implicitDefEqProofs only [K11, SS, reduceAdd,reduceSub,reduceLeDiff,reduceEqDiff,reduceCtorEq, h1, List.length_map]
    refine WC.loopR (fun mm fr st' => st' = st ∧ ∃ (i : Nat) (v6 : AV), i ≤ l.length ∧ mm = l.length - i ∧
      fr = [.ptr so 0, .str n, .list true [], .box [.int .u8 t.k, .str t.n, .list false (t.fs.map FDef.row), .list false (t.ns.map strRow)], .bool true, .list true ((((l.take i).filter (oneOf n)).map (fun u => u.n)).map strRow), v6, .list false (l.map TDef.row), .int .i64 l.length, .int .i64 i]) (m := l.length) ⟨rfl, 0, _, Nat.zero_le _, rfl, rfl⟩ ?_
    rintro mm fr st' ⟨rfl, i, v6, hi, rfl, rfl⟩
    simp +contextual -implicitDefEqProofs only [K11, SS, reduceAdd,reduceSub,reduceLeDiff,reduceEqDiff,reduceCtorEq]
    by_cases hil : i < l.length
    · have e2 : (l.map TDef.row)[i]? = some (l[i]).row := by rw [List.getElem?_map, List.getElem?_eq_getElem hil]; rfl
      have e3 : l.take (i + 1) = l.take i ++ [l[i]] := by rw [List.take_add_one, List.getElem?_eq_getElem hil]; rfl
      have hu := h.ok _ (List.getElem_mem hil)
      revert e2 e3 hu
      generalize l[i] = u
      intro e2 e3 hu
      have hun := hu.ln
      have i1 := inc64 (show i + 1 < 2 ^ 63 by omega)
      rw [TDef.row] at e2
      have hf : ∀ b, oneOf n u = b → (l.take (i + 1)).filter (oneOf n) = (l.take i).filter (oneOf n) ++ (if b then [u] else []) := by
        intro b hb
        rw [e3, List.filter_append]
        cases b <;> simp [hb]
      cases hk1 : eqI u.k 1 with
      | false =>
        have hff := hf false (by rw [oneOf, hk1]; rfl)
        simp +contextual -implicitDefEqProofs only [K11, SS, reduceAdd,reduceSub,reduceLeDiff,reduceEqDiff,reduceCtorEq, hil, e2, hk1, i1]
        exact WC.next (m' := l.length - (i + 1)) (by omega) ⟨rfl, i + 1, _, hil, rfl, by rw [hff]; simp only [Bool.false_eq_true, if_false, List.append_nil]; rfl⟩
      | true =>
        simp +contextual -implicitDefEqProofs only [K11, SS, reduceAdd,reduceSub,reduceLeDiff,reduceEqDiff,reduceCtorEq, hil, e2, hk1]
        refine WC.call (contains_q u.ns (by omega) n _) rfl rfl ?_
        rintro _ st' ⟨rfl, rfl⟩
        cases hc : hasN u.ns n with
        | false =>
          have hff := hf false (by rw [oneOf, hk1, hc]; rfl)
          simp +contextual -implicitDefEqProofs only [K11, SS, reduceAdd,reduceSub,reduceLeDiff,reduceEqDiff,reduceCtorEq, i1]
          exact WC.next (m' := l.length - (i + 1)) (by omega) ⟨rfl, i + 1, _, hil, rfl, by rw [hff]; simp only [Bool.false_eq_true, if_false, List.append_nil]; rfl⟩
        | true =>
          have hff := hf true (by rw [oneOf, hk1, hc]; rfl)
          have hcount : ((((l.take i).filter (oneOf n)).map (fun u => u.n)).map strRow).length ≤ 3001 := by
            rw [List.length_map, List.length_map]
            have := List.length_filter_le (oneOf n) (l.take i)
            simp only [List.length_take] at this
            omega
          simp +contextual -implicitDefEqProofs only [K11, SS, reduceAdd,reduceSub,reduceLeDiff,reduceEqDiff,reduceCtorEq, i1, rowsStr, show (((((l.take i).filter (oneOf n)).map (fun u => u.n)).map strRow).length + 1) * 16 ≤ 2 ^ 47 by omega]
          refine WC.next (m' := l.length - (i + 1)) (by omega) ⟨rfl, i + 1, .box [.int .u8 u.k, .str u.n, .list false (u.fs.map FDef.row), .list false (u.ns.map strRow)], hil, rfl, ?_⟩
          rw [hff]
          simp only [if_true, List.map_append, List.map_cons, List.map_nil, strRow]
    · simp +contextual -implicitDefEqProofs only [K11, SS, reduceAdd,reduceSub,reduceLeDiff,reduceEqDiff,reduceCtorEq, hil]
      refine WC.leave ?_
      simp +contextual -implicitDefEqProofs only [K11, SS, reduceAdd,reduceSub,reduceLeDiff,reduceEqDiff,reduceCtorEq]
      exact WC.ret ⟨_, _, rfl, rfl, by rw [List.take_of_length_le (by omega)]; rfl⟩
end Go.Cb.CodeA
set_option maxRecDepth 20000
set_option linter.unusedSimpArgs false
set_option linter.unusedVariables false
namespace Go.Cb.CodeA
open Go Go.Cb
attribute [local congr] obind_congr gv_congr2 gv2_congr brT_congr seqK_congr blkK_congr m1_congr gm_congr

theorem eqN_iff (a b : List Nat) : eqN a b = true ↔ a = b := by rw [eqN_eq]; simp
theorem eqN_false (a b : List Nat) : eqN a b = false ↔ a ≠ b := by rw [eqN_eq]; simp
/-- what is declared is found under its name -/
theorem decl_lk : ∀ (l seen : List TDef), (declGo seen l).1 = 0 → ∀ t ∈ l, lk (seen ++ l) t.n = some t
  | [], _, _, t, ht => by cases ht
  | u :: l, seen, h0, t, ht => by
    rw [declGo] at h0
    by_cases h1 : ((lk seen u.n).isSome || scalarB u.n) = true
    · rw [if_pos h1] at h0; simp at h0
    rw [if_neg h1] at h0
    by_cases h2 : beginsN u.n [95, 95] = true
    · rw [if_pos h2] at h0; simp at h0
    rw [if_neg h2] at h0
    have ih := decl_lk l (seen ++ [u]) h0
    rw [List.append_assoc] at ih
    rcases List.mem_cons.1 ht with rfl | ht
    · have hn : lk seen t.n = none := by
        simp only [Bool.or_eq_true, not_or] at h1
        simpa using h1.1
      unfold lk at hn ⊢
      rw [List.find?_append, hn]
      simp [eqN_refl]
    · exact ih t ht
theorem fold_zero {f : Flt} {r : Flt} (h : (if !eqI f.1 0 then f else r).1 = 0) : f.1 = 0 ∧ r.1 = 0 := by
  by_cases hf : f.1 = 0
  · rw [if_neg (by rw [eqI_eq, hf]; simp)] at h
    exact ⟨hf, h⟩
  · rw [if_pos (by rw [eqI_eq]; simpa using hf)] at h
    exact absurd h hf
end Go.Cb.CodeA
/- What functions of the abstract machine answer. No conditions but those that each theorem names. -/
set_option maxRecDepth 20000
set_option linter.unusedSimpArgs false
set_option linter.unusedVariables false
namespace Go.Cb.CodeA
open Go Go.Cb

theorem decl_iff : ∀ (l seen : List TDef), (declGo seen l).1 = 0 ↔ (∀ t ∈ l, lk seen t.n = none ∧ scalarB t.n = false ∧ beginsN t.n [95, 95] = false) ∧ (l.map fun t => t.n).Nodup
  | [], _ => by simp [declGo]
  | u :: l, seen => by
    rw [declGo]
    by_cases h1 : ((lk seen u.n).isSome || scalarB u.n) = true
    · rw [if_pos h1]
      constructor
      · intro h; simp at h
      · intro ⟨h, _⟩
        have := h u (List.mem_cons_self ..)
        rw [this.1, this.2.1] at h1
        simp at h1
    rw [if_neg h1]
    simp only [Bool.or_eq_true, not_or, Bool.not_eq_true, Option.isSome_eq_false_iff, Option.isNone_iff_eq_none] at h1
    by_cases h2 : beginsN u.n [95, 95] = true
    · rw [if_pos h2]
      constructor
      · intro h; simp at h
      · intro ⟨h, _⟩
        have := (h u (List.mem_cons_self ..)).2.2
        rw [h2] at this; cases this
    rw [if_neg h2, decl_iff l (seen ++ [u])]
    have key : ∀ n, lk (seen ++ [u]) n = none ↔ lk seen n = none ∧ n ≠ u.n := by
      intro n
      unfold lk
      rw [List.find?_append]
      cases h : seen.find? (fun t => eqN n t.n) with
      | some x => simp
      | none =>
        simp only [Option.none_or, true_and]
        rw [List.find?_cons]
        by_cases e : n = u.n
        · subst e; simp [eqN_refl]
        · rw [(eqN_false _ _).2 e]; simp [e]
    simp only [key, List.mem_cons, forall_eq_or_imp, List.map_cons, List.nodup_cons, List.mem_map, not_exists, not_and]
    constructor
    · rintro ⟨ha, hn⟩
      exact ⟨⟨⟨h1.1, h1.2, by simpa using h2⟩, fun t ht => ⟨(ha t ht).1.1, (ha t ht).2⟩⟩, fun t ht e => (ha t ht).1.2 e, hn⟩
    · rintro ⟨⟨_, ha⟩, hm, hn⟩
      exact ⟨fun t ht => ⟨⟨(ha t ht).1, fun e => hm t ht e⟩, (ha t ht).2⟩, hn⟩
section
variable {l m : List TDef} (h : lk l = lk m)
include h
end
theorem fold_iff (f r : Flt) : (if !eqI f.1 0 then f else r).1 = 0 ↔ f.1 = 0 ∧ r.1 = 0 := by
  refine ⟨fold_zero, fun ⟨h1, h2⟩ => ?_⟩
  rw [if_neg (by rw [eqI_eq, h1]; simp)]
  exact h2
theorem check_iff (l : List TDef) : ∀ r : List TDef, (checkGo l r).1 = 0 ↔ ∀ t ∈ r, (checkS l t).1 = 0
  | [] => by simp [checkGo]
  | u :: r => by rw [checkGo, fold_iff, check_iff l r]; simp
theorem roles_iff (l : List TDef) : ∀ r : List TDef, (rolesLo l r).1 = 0 ↔ ∀ t ∈ r, (rolesS l t).1 = 0
  | [] => by simp [rolesLo]
  | u :: r => by rw [rolesLo, fold_iff, roles_iff l r]; simp
theorem build_iff (l : List TDef) : (buildS l).1 = 0 ↔ (declGo [] l).1 = 0 ∧ (∀ t ∈ l, (checkS l t).1 = 0) ∧ ((!(lk l queryN).isSome || !eqI ((lk l queryN).getD TDef.zero).k 1) = false) ∧ ∀ t ∈ l, (rolesS l t).1 = 0 := by
  unfold buildS behind
  rw [fold_iff, fold_iff, check_iff]
  by_cases hq : (!(lk l queryN).isSome || !eqI ((lk l queryN).getD TDef.zero).k 1) = true
  · rw [if_pos hq, hq]; simp
  · rw [if_neg hq, roles_iff]; simp only [Bool.not_eq_true] at hq; rw [hq]; simp
theorem poss_le {l : List TDef} (hl : l.length ≤ 3001) (hok : ∀ t ∈ l, t.OK) (n : List Nat) : (possS l n).length ≤ 3001 := by
  unfold possS
  cases h : lk l n with
  | none => simp
  | some t =>
    have ht := (hok t (List.mem_of_find?_eq_some h)).ln
    dsimp only
    split
    · simp
    split
    · omega
    split
    · simp
    · rw [List.length_map]
      have := List.length_filter_le (oneOf n) l
      omega
end Go.Cb.CodeA
set_option maxRecDepth 20000
set_option linter.unusedSimpArgs false
set_option linter.unusedVariables false
namespace Go.Cb.CodeA
open Go Go.Cb

/-! a text that goes on with a new line is read as before -/
theorem span_ext {p : Nat → Bool} (hp : p 10 = false) (q : List Nat) : ∀ (r acc : List Nat), spanG p acc (r ++ 10 :: q) = ((spanG p acc r).1, (spanG p acc r).2 ++ 10 :: q)
  | [], acc => by simp [spanG, hp]
  | c :: r, acc => by
    rw [List.cons_append, spanG, spanG]
    by_cases h : p c = true
    · rw [if_pos h, if_pos h, span_ext hp q r]
    · rw [if_neg h, if_neg h]; rfl
theorem span_len {p : Nat → Bool} : ∀ (r acc : List Nat), (spanG p acc r).2.length ≤ r.length
  | [], acc => Nat.le_refl _
  | c :: r, acc => by
    rw [spanG]
    by_cases h : p c = true
    · rw [if_pos h]; have := span_len (p := p) r (acc ++ [c]); simp only [List.length_cons]; omega
    · rw [if_neg h]; exact Nat.le_refl _
theorem num_ext (q : List Nat) : ∀ (r : List Nat) (c : Nat) (n : Int) (acc : List Nat), numG c n acc (r ++ 10 :: q) = ((numG c n acc r).1, (numG c n acc r).2.1, (numG c n acc r).2.2.1, (numG c n acc r).2.2.2 ++ 10 :: q)
  | [], c, n, acc => by
    have e : numG c n acc (10 :: q) = (c, n, acc, 10 :: q) := by rw [numG, if_neg (show ¬ digitB ((10 : Nat) : Int) = true by decide)]
    exact e
  | x :: r, c, n, acc => by
    rw [List.cons_append, numG, numG]
    by_cases h : digitB (x : Int) = true
    · rw [if_pos h, if_pos h, num_ext q r]
    · rw [if_neg h, if_neg h]; rfl
theorem num_len : ∀ (r : List Nat) (c : Nat) (n : Int) (acc : List Nat), (numG c n acc r).2.2.2.length ≤ r.length
  | [], c, n, acc => Nat.le_refl _
  | x :: r, c, n, acc => by
    rw [numG]
    by_cases h : digitB (x : Int) = true
    · rw [if_pos h]; have := num_len r (c + 1) (if c < 18 then NN n x else n) (acc ++ [x]); simp only [List.length_cons]; omega
    · rw [if_neg h]; exact Nat.le_refl _
theorem numG_pos {x : Nat} {r : List Nat} (h : digitB (x : Int) = true) : (numG 0 0 [] (x :: r)).2.2.2.length ≤ r.length := by
  rw [numG, if_pos h]
  exact num_len _ _ _ _
/-- what it is that a reader of one token keeps to -/
def ExtO (q : List Nat) (l : List Nat) (x y : OneR) : Prop := ∀ k t n r, x = some (k, t, n, r) → r.length ≤ l.length ∧ y = some (k, t, n, r ++ 10 :: q)
theorem numX_ext (q : List Nat) (m : Bool) (pre l : List Nat) : ExtO q l (numX m pre (numG 0 0 [] l)) (numX m pre (numG 0 0 [] (l ++ 10 :: q))) := by
  intro k t n r h
  rw [num_ext]
  have hl := num_len l 0 0 []
  revert h hl
  generalize numG 0 0 [] l = z
  obtain ⟨c, n', acc, r'⟩ := z
  intro h hl
  simp only [numX, numE] at h hl ⊢
  have hh : headB (fun x => letterB (x : Int) || eqI (x : Int) 46) (r' ++ 10 :: q) = headB (fun x => letterB (x : Int) || eqI (x : Int) 46) r' := by
    cases r' with
    | nil => show (letterB ((10 : Nat) : Int) || eqI ((10 : Nat) : Int) 46) = false; decide
    | cons x r => rfl
  rw [hh]
  split at h
  · cases h
  rename_i h1
  split at h
  · cases h
  rename_i h2
  split at h
  · cases h
  rename_i h3
  split at h
  · cases h
  rename_i h4
  rw [if_neg h1, if_neg h2, if_neg h3, if_neg h4]
  injection h with h
  injection h with e1 h
  injection h with e2 h
  injection h with e3 e4
  subst e1 e2 e3 e4
  exact ⟨hl, rfl⟩
theorem number_ext (q : List Nat) : ∀ l : List Nat, ExtO q l (numberS l) (numberS (l ++ 10 :: q))
  | [] => by intro k t n r h; cases h
  | b :: l => by
    intro k t n r h
    rw [List.cons_append, numberS]
    rw [numberS] at h
    by_cases hb : eqI (b : Int) 45 = true
    · rw [if_pos hb] at h ⊢
      obtain ⟨h1, h2⟩ := numX_ext q true [45] l k t n r h
      exact ⟨by simp only [List.length_cons]; omega, h2⟩
    · rw [if_neg hb] at h ⊢
      exact numX_ext q false [] (b :: l) k t n r h
theorem number_len : ∀ (b : Nat) (l : List Nat), (eqI (b : Int) 45 || digitB (b : Int)) = true → ∀ k t n r, numberS (b :: l) = some (k, t, n, r) → r.length ≤ l.length := by
  intro b l hb k t n r h
  rw [numberS] at h
  have fin : ∀ m pre z, numX m pre z = some (k, t, n, r) → r = z.2.2.2 := by
    intro m pre z h
    simp only [numX, numE] at h
    split at h
    · cases h
    split at h
    · cases h
    split at h
    · cases h
    split at h
    · cases h
    injection h with h
    injection h with e1 h
    injection h with e2 h
    injection h with e3 e4
    exact e4.symm
  by_cases h45 : eqI (b : Int) 45 = true
  · rw [if_pos h45] at h
    rw [fin _ _ _ h]
    exact num_len _ _ _ _
  · rw [if_neg h45] at h
    rw [fin _ _ _ h]
    exact numG_pos (by
      rw [Bool.or_eq_true] at hb
      exact hb.resolve_left h45)
theorem text_ext (q : List Nat) : ∀ (l t : List Nat), ExtO q l (textG t l) (textG t (l ++ 10 :: q))
  | [], t => by intro k u n r h; rw [textG] at h; cases h
  | [b], t => by
    intro k u n r h
    rw [textG_cons] at h
    rw [List.cons_append, textG_cons]
    split at h
    · rename_i h1
      rw [if_pos h1]
      split at h
      · cases h
      · rename_i h2
        rw [if_neg h2]
        injection h with h
        injection h with e1 h
        injection h with e2 h
        injection h with e3 e4
        subst e1 e2 e3 e4
        exact ⟨by simp, rfl⟩
    · split at h
      · cases h
      · split at h
        · cases h
        · rw [textG] at h; cases h
  | b :: x :: l, t => by
    intro k u n r h
    rw [textG_cons] at h
    rw [List.cons_append, textG_cons]
    split at h
    · rename_i h1
      rw [if_pos h1]
      split at h
      · cases h
      · rename_i h2
        rw [if_neg h2]
        injection h with h
        injection h with e1 h
        injection h with e2 h
        injection h with e3 e4
        subst e1 e2 e3 e4
        exact ⟨by simp, rfl⟩
    · rename_i h1
      rw [if_neg h1]
      split at h
      · cases h
      · rename_i h2
        rw [if_neg h2]
        split at h
        · rename_i h3
          rw [if_pos h3]
          simp only [List.cons_append] at h ⊢
          cases hE : escC x with
          | none => rw [hE] at h; cases h
          | some y =>
            rw [hE] at h
            obtain ⟨a1, a2⟩ := text_ext q l _ k u n r h
            exact ⟨by simp only [List.length_cons]; omega, a2⟩
        · rename_i h3
          rw [if_neg h3]
          obtain ⟨a1, a2⟩ := text_ext q (x :: l) _ k u n r h
          exact ⟨by simp only [List.length_cons] at a1 ⊢; omega, a2⟩
theorem dots_ext (q : List Nat) (l : List Nat) : ExtO q l (dotsS l) (dotsS (l ++ 10 :: q)) := by
  intro k t n r h
  unfold dotsS at h
  split at h
  · injection h with h
    injection h with e1 h
    injection h with e2 h
    injection h with e3 e4
    subst e1 e2 e3 e4
    exact ⟨by simp; omega, rfl⟩
  · cases h
theorem one_ext (q : List Nat) (b : Nat) (l : List Nat) : ∀ k t n r, oneS (b :: l) = some (k, t, n, r) → r.length ≤ l.length ∧ oneS (b :: l ++ 10 :: q) = some (k, t, n, r ++ 10 :: q) := by
  intro k t n r h
  rw [List.cons_append, oneS]
  rw [oneS] at h
  split at h
  · rename_i h1
    rw [if_pos h1]
    have hn : nameC b = true := by rw [nameC, h1]; rfl
    have e := span_ext (p := nameC) (by decide) q (b :: l) []
    have hl : (spanG nameC [] (b :: l)).2.length ≤ l.length := by rw [spanG, if_pos hn]; exact span_len _ _
    rw [List.cons_append] at e
    rw [nameS, e]
    rw [nameS] at h
    revert h hl
    generalize spanG nameC [] (b :: l) = z
    intro h hl
    split at h
    · cases h
    · rename_i h2
      rw [if_neg h2]
      injection h with h
      injection h with e1 h
      injection h with e2 h
      injection h with e3 e4
      subst e1 e2 e3 e4
      exact ⟨hl, rfl⟩
  rename_i h1
  rw [if_neg h1]
  split at h
  · rename_i h2
    rw [if_pos h2]
    have := number_ext q (b :: l) k t n r h
    exact ⟨number_len b l h2 k t n r h, this.2⟩
  rename_i h2
  rw [if_neg h2]
  split at h
  · rename_i h3
    rw [if_pos h3]
    exact text_ext q l [] k t n r h
  rename_i h3
  rw [if_neg h3]
  split at h
  · rename_i h4
    rw [if_pos h4]
    exact dots_ext q l k t n r h
  rename_i h4
  rw [if_neg h4]
  split at h
  · rename_i h5
    rw [if_pos h5]
    injection h with h
    injection h with e1 h
    injection h with e2 h
    injection h with e3 e4
    subst e1 e2 e3 e4
    exact ⟨Nat.le_refl _, rfl⟩
  · cases h
theorem skip_ext (q : List Nat) : ∀ l : List Nat, skipC (l ++ 10 :: q) = skipC l ++ 10 :: q
  | [] => rfl
  | b :: l => by
    rw [List.cons_append, skipC, skipC]
    split
    · rfl
    · exact skip_ext q l
theorem skip_len : ∀ l : List Nat, (skipC l).length ≤ l.length
  | [] => Nat.le_refl _
  | b :: l => by
    rw [skipC]
    split
    · exact Nat.le_refl _
    · have := skip_len l; simp only [List.length_cons]; omega
theorem tok_ext (q : List Nat) : ∀ (f i : Nat) (r : List Nat) (acc L : List Tok), tokG f i r acc = some L → ∃ (A : List Tok) (c : Nat), L = A ++ [⟨0, [], 0, ((i + r.length : Nat) : Int)⟩] ∧ c ≤ r.length ∧ ∀ g, tokG (c + 1 + g) i (r ++ 10 :: q) acc = tokG g (i + r.length + 1) q A
  | 0, i, r, acc, L, h => by rw [tokG] at h; cases h
  | f + 1, i, [], acc, L, h => by
    rw [tokG] at h
    injection h with h
    refine ⟨acc, 0, h.symm, Nat.le_refl _, fun g => ?_⟩
    rw [show 0 + 1 + g = g + 1 by omega, List.nil_append, tokG, if_pos (by decide)]
    rfl
  | f + 1, i, b :: r, acc, L, h => by
    rw [tokG] at h
    have key : ∀ (r' : List Nat) (acc' : List Tok) (j : Nat), r'.length ≤ r.length → j = i + ((b :: r).length - r'.length) → tokG f j r' acc' = some L → (∀ g, tokG (g + 1) i (b :: r ++ 10 :: q) acc = tokG g j (r' ++ 10 :: q) acc') → ∃ (A : List Tok) (c : Nat), L = A ++ [⟨0, [], 0, ((i + (b :: r).length : Nat) : Int)⟩] ∧ c ≤ (b :: r).length ∧ ∀ g, tokG (c + 1 + g) i (b :: r ++ 10 :: q) acc = tokG g (i + (b :: r).length + 1) q A := by
      intro r' acc' j hr hj hL hg
      obtain ⟨A, c, hA, hc, hstep⟩ := tok_ext q f j r' acc' L hL
      have ej : j + r'.length = i + (b :: r).length := by rw [hj]; simp only [List.length_cons]; omega
      rw [ej] at hA
      refine ⟨A, c + 1, hA, by simp only [List.length_cons]; omega, fun g => ?_⟩
      rw [show c + 1 + 1 + g = (c + 1 + g) + 1 by omega, hg, hstep g, ej]
    split at h
    · rename_i h1
      refine key r acc (i + 1) (Nat.le_refl _) (by simp only [List.length_cons]; omega) h fun g => ?_
      rw [List.cons_append, tokG, if_pos h1]
    rename_i h1
    split at h
    · rename_i h2
      have h10 : ¬ eqI (b : Int) 10 = true := by
        intro h10
        rw [eqI_eq] at h2 h10
        simp at h2 h10
        omega
      have es : skipC (b :: r) = skipC r := by rw [skipC, if_neg h10]
      refine key (skipC (b :: r)) acc _ (by rw [es]; exact skip_len r) rfl h fun g => ?_
      rw [List.cons_append, tokG, if_neg h1, if_pos h2, ← List.cons_append, skip_ext]
      congr 1
      simp only [List.length_append, List.length_cons]
      omega
    rename_i h2
    cases ho : oneS (b :: r) with
    | none => rw [ho] at h; cases h
    | some z =>
      obtain ⟨k, t, n, r'⟩ := z
      rw [ho] at h
      obtain ⟨a1, a2⟩ := one_ext q b r k t n r' ho
      refine key r' _ _ a1 rfl h fun g => ?_
      rw [List.cons_append, tokG, if_neg h1, if_neg h2, ← List.cons_append, a2]
      show tokG g _ _ _ = _
      congr 1
      simp only [List.length_append, List.length_cons]
      omega
def moreN : List Nat := [116, 121, 112, 101, 32, 90, 122, 57, 32, 123, 32, 122, 122, 58, 32, 73, 110, 116, 32, 125]
/-- the tokens of one object more -/
def moreT (a : Fin 8 → Int) : List Tok := [⟨1, [116, 121, 112, 101], 0, a 0⟩, ⟨1, [90, 122, 57], 0, a 1⟩, ⟨4, [123], 0, a 2⟩, ⟨1, [122, 122], 0, a 3⟩, ⟨4, [58], 0, a 4⟩, ⟨1, [73, 110, 116], 0, a 5⟩, ⟨4, [125], 0, a 6⟩, ⟨0, [], 0, a 7⟩]
theorem more_tokens (g j : Nat) (A : List Tok) : ∃ a, tokG (g + 13) j moreN A = some (A ++ moreT a) := by
  refine ⟨fun x => match x with | 0 => ((j : Nat) : Int) | 1 => ((j + 4 + 1 : Nat) : Int) | 2 => ((j + 4 + 1 + 3 + 1 : Nat) : Int) | 3 => ((j + 4 + 1 + 3 + 1 + 1 + 1 : Nat) : Int) | 4 => ((j + 4 + 1 + 3 + 1 + 1 + 1 + 2 : Nat) : Int) | 5 => ((j + 4 + 1 + 3 + 1 + 1 + 1 + 2 + 1 + 1 : Nat) : Int) | 6 => ((j + 4 + 1 + 3 + 1 + 1 + 1 + 2 + 1 + 1 + 3 + 1 : Nat) : Int) | 7 => ((j + 4 + 1 + 3 + 1 + 1 + 1 + 2 + 1 + 1 + 3 + 1 + 1 : Nat) : Int), ?_⟩
  have e : tokG (g + 13) j moreN A = some (((((((A ++ [⟨1, [116, 121, 112, 101], 0, ((j : Nat) : Int)⟩]) ++ [⟨1, [90, 122, 57], 0, ((j + 4 + 1 : Nat) : Int)⟩]) ++ [⟨4, [123], 0, ((j + 4 + 1 + 3 + 1 : Nat) : Int)⟩]) ++ [⟨1, [122, 122], 0, ((j + 4 + 1 + 3 + 1 + 1 + 1 : Nat) : Int)⟩]) ++ [⟨4, [58], 0, ((j + 4 + 1 + 3 + 1 + 1 + 1 + 2 : Nat) : Int)⟩]) ++ [⟨1, [73, 110, 116], 0, ((j + 4 + 1 + 3 + 1 + 1 + 1 + 2 + 1 + 1 : Nat) : Int)⟩]) ++ [⟨4, [125], 0, ((j + 4 + 1 + 3 + 1 + 1 + 1 + 2 + 1 + 1 + 3 + 1 : Nat) : Int)⟩] ++ [⟨0, [], 0, ((j + 4 + 1 + 3 + 1 + 1 + 1 + 2 + 1 + 1 + 3 + 1 + 1 : Nat) : Int)⟩]) := rfl
  rw [e]
  simp only [List.append_assoc]
  rfl
theorem tokens_more {s : List Nat} (hs : s.length ≤ 1800) {L : List Tok} (h : tokensS s = some L) : ∃ (A : List Tok) (x : Int) (a : Fin 8 → Int), L = A ++ [⟨0, [], 0, x⟩] ∧ tokensS (s ++ 10 :: moreN) = some (A ++ moreT a) := by
  rw [tokensS, if_neg (by omega)] at h
  obtain ⟨A, c, hA, hc, hg⟩ := tok_ext moreN 2002 0 s [] L h
  obtain ⟨a, ha⟩ := more_tokens (1988 - c) (0 + s.length + 1) A
  refine ⟨A, _, a, hA, ?_⟩
  have hl : ¬ 2000 < (s ++ 10 :: moreN).length := by
    rw [List.length_append]
    show ¬ 2000 < s.length + 21
    omega
  rw [tokensS, if_neg hl, show 2002 = c + 1 + (1988 - c + 13) by omega, hg, ha]
end Go.Cb.CodeA
set_option maxRecDepth 20000
set_option linter.unusedSimpArgs false
set_option linter.unusedVariables false
namespace Go.Cb.CodeA
open Go Go.Cb

def typeN : List Nat := [116, 121, 112, 101]
/-- two lists of tokens that are one up to a place, where one ends and the other goes on with a declaration -/
structure Two (L L' : List Tok) (n : Nat) : Prop where
  lo : ∀ i, i < n → L'[i]? = L[i]?
  en : ∃ x, L[n]? = some ⟨0, [], 0, x⟩
  go : ∃ x, L'[n]? = some ⟨1, typeN, 0, x⟩
variable {L L' : List Tok} {n : Nat}
theorem Two.word (h : Two L L' n) {i : Nat} (hi : i ≤ n) {s : List Nat} (hs : eqN typeN s = false) : wordB L' i s = wordB L i s ∧ (wordB L i s = true → i < n) := by
  unfold wordB
  by_cases e : i = n
  · subst e
    obtain ⟨x, hx⟩ := h.en
    obtain ⟨y, hy⟩ := h.go
    rw [hx, hy]
    dsimp only
    rw [hs, Bool.and_false]
    exact ⟨rfl, fun h => by cases h⟩
  · rw [h.lo i (by omega)]
    exact ⟨rfl, fun _ => by omega⟩
theorem Two.sign (h : Two L L' n) {i : Nat} (hi : i ≤ n) (s : List Nat) : signB L' i s = signB L i s ∧ (signB L i s = true → i < n) := by
  unfold signB
  by_cases e : i = n
  · subst e
    obtain ⟨x, hx⟩ := h.en
    obtain ⟨y, hy⟩ := h.go
    rw [hx, hy]
    exact ⟨rfl, fun h => by cases h⟩
  · rw [h.lo i (by omega)]
    exact ⟨rfl, fun _ => by omega⟩
theorem Two.eat (h : Two L L' n) {i : Nat} (hi : i ≤ n) {s : List Nat} (hs : eqN typeN s = false) : eatB L' i s = eatB L i s ∧ (eatB L i s = true → i < n) := by
  unfold eatB
  rw [(h.sign hi s).1, (h.word hi hs).1]
  refine ⟨rfl, fun hb => ?_⟩
  rcases (Bool.or_eq_true _ _).mp hb with h1 | h1
  · exact (h.sign hi s).2 h1
  · exact (h.word hi hs).2 h1
/-- what one tells the other tells -/
def ExtP {α : Type} (n : Nat) (p p' : Nat → Option (α × Nat)) : Prop := ∀ i x j, i ≤ n → p i = some (x, j) → i < j ∧ j ≤ n ∧ p' i = some (x, j)
def ExtS {α : Type} (n : Nat) (p p' : Nat → α → Option (Bool × Nat × α)) : Prop := ∀ i a b j x, i ≤ n → p i a = some (b, j, x) → (i < j ∨ (b = true ∧ i ≤ j)) ∧ j ≤ n ∧ p' i a = some (b, j, x)
theorem Two.name (h : Two L L' n) : ExtP n (nameP L) (nameP L') := by
  intro i x j hi hp
  unfold nameP at hp ⊢
  by_cases e : i = n
  · subst e
    obtain ⟨z, hz⟩ := h.en
    rw [hz] at hp
    dsimp only at hp
    rw [if_neg (show ¬ eqI 0 1 = true by decide)] at hp
    cases hp
  · rw [h.lo i (by omega)]
    cases hl : L[i]? with
    | none => rw [hl] at hp; cases hp
    | some t =>
      rw [hl] at hp
      dsimp only at hp ⊢
      split at hp
      · rename_i h1
        rw [if_pos h1]
        injection hp with hp
        injection hp with e1 e2
        subst e1 e2
        exact ⟨by omega, by omega, rfl⟩
      · cases hp
theorem Two.must (h : Two L L' n) {s : List Nat} (hs : eqN typeN s = false) {i j : Nat} (hi : i ≤ n) (hp : mustP L s i = some j) : i < j ∧ j ≤ n ∧ mustP L' s i = some j := by
  unfold mustP at hp ⊢
  rw [(h.eat hi hs).1]
  split at hp
  · rename_i h1
    rw [if_pos h1]
    have := (h.eat hi hs).2 h1
    injection hp with hp
    exact ⟨by omega, by omega, by rw [hp]⟩
  · cases hp
theorem loop_ext {α : Type} {p p' : Nat → α → Option (Bool × Nat × α)} (h : ExtS n p p') : ∀ (f i : Nat) (a x : α) (j : Nat), i ≤ n → loopP p f i a = some (x, j) → i ≤ j ∧ j ≤ n ∧ loopP p' f i a = some (x, j)
  | 0, i, a, x, j, hi, hp => by rw [loopP] at hp; cases hp
  | f + 1, i, a, x, j, hi, hp => by
    rw [loopP] at hp
    cases hz : p i a with
    | none => rw [hz] at hp; cases hp
    | some z =>
      obtain ⟨b, j', y⟩ := z
      rw [hz] at hp
      obtain ⟨h1, h2, h3⟩ := h i a b j' y hi hz
      rw [loopP, h3]
      cases b with
      | true =>
        injection hp with hp
        injection hp with e1 e2
        subst e1 e2
        exact ⟨by omega, h2, rfl⟩
      | false =>
        obtain ⟨k1, k2, k3⟩ := loop_ext h f j' y x j h2 hp
        exact ⟨by omega, k2, k3⟩
theorem Two.type (h : Two L L' n) : ∀ f, ExtP n (typeP L f) (typeP L' f)
  | 0 => by intro i x j hi hp; rw [typeP] at hp; cases hp
  | f + 1 => by
    intro i x j hi hp
    rw [typeP] at hp ⊢
    obtain ⟨e1, e2⟩ := h.eat hi (show eqN typeN [91] = false by decide)
    rw [e1]
    split at hp
    · rename_i h1
      rw [if_pos h1]
      have hi1 := e2 h1
      cases hz : typeP L f (i + 1) with
      | none => rw [hz] at hp; cases hp
      | some z =>
        obtain ⟨u, i2⟩ := z
        rw [hz] at hp
        obtain ⟨a1, a2, a3⟩ := h.type f (i + 1) u i2 (by omega) hz
        rw [a3]
        dsimp only at hp ⊢
        cases hm : mustP L [93] i2 with
        | none => rw [hm] at hp; cases hp
        | some i3 =>
          rw [hm] at hp
          obtain ⟨b1, b2, b3⟩ := h.must (show eqN typeN [93] = false by decide) a2 hm
          rw [b3]
          dsimp only at hp ⊢
          obtain ⟨f1, f2⟩ := h.eat b2 (show eqN typeN [33] = false by decide)
          rw [f1]
          split at hp
          · rename_i h2
            rw [if_pos h2]
            have := f2 h2
            injection hp with hp
            injection hp with e1 e2
            subst e1 e2
            exact ⟨by omega, by omega, rfl⟩
          · rename_i h2
            rw [if_neg h2]
            injection hp with hp
            injection hp with e1 e2
            subst e1 e2
            exact ⟨by omega, by omega, rfl⟩
    · rename_i h1
      rw [if_neg h1]
      cases hz : nameP L i with
      | none => rw [hz] at hp; cases hp
      | some z =>
        obtain ⟨u, i2⟩ := z
        rw [hz] at hp
        obtain ⟨a1, a2, a3⟩ := h.name i u i2 hi hz
        rw [a3]
        dsimp only at hp ⊢
        obtain ⟨f1, f2⟩ := h.eat a2 (show eqN typeN [33] = false by decide)
        rw [f1]
        split at hp
        · rename_i h2
          rw [if_pos h2]
          have := f2 h2
          injection hp with hp
          injection hp with e1 e2
          subst e1 e2
          exact ⟨by omega, by omega, rfl⟩
        · rename_i h2
          rw [if_neg h2]
          injection hp with hp
          injection hp with e1 e2
          subst e1 e2
          exact ⟨by omega, by omega, rfl⟩
theorem Two.stepL (h : Two L L' n) {p p' : Nat → Option (Val × Nat)} (hv : ExtP n p p') : ExtS n (stepL L p) (stepL L' p') := by
  intro i a b j x hi hp
  unfold CodeA.stepL at hp ⊢
  obtain ⟨e1, e2⟩ := h.eat hi (show eqN typeN [93] = false by decide)
  rw [e1]
  split at hp
  · rename_i h1
    rw [if_pos h1]
    have := e2 h1
    injection hp with hp
    injection hp with e1 hp
    injection hp with e2 e3
    subst e1 e2 e3
    exact ⟨by omega, by omega, rfl⟩
  · rename_i h1
    rw [if_neg h1]
    cases hz : p i with
    | none => rw [hz] at hp; cases hp
    | some z =>
      obtain ⟨v, k⟩ := z
      rw [hz] at hp
      obtain ⟨a1, a2, a3⟩ := hv i v k hi hz
      rw [a3]
      injection hp with hp
      injection hp with e1 hp
      injection hp with e2 e3
      subst e1 e2 e3
      exact ⟨by omega, by omega, rfl⟩
theorem Two.stepO (h : Two L L' n) {p p' : Nat → Option (Val × Nat)} (hv : ExtP n p p') : ExtS n (stepO L p) (stepO L' p') := by
  intro i a b j x hi hp
  unfold CodeA.stepO at hp ⊢
  obtain ⟨e1, e2⟩ := h.eat hi (show eqN typeN [125] = false by decide)
  rw [e1]
  split at hp
  · rename_i h1
    rw [if_pos h1]
    have := e2 h1
    injection hp with hp
    injection hp with e1 hp
    injection hp with e2 e3
    subst e1 e2 e3
    exact ⟨by omega, by omega, rfl⟩
  · rename_i h1
    rw [if_neg h1]
    cases hz : nameP L i with
    | none => rw [hz] at hp; cases hp
    | some z =>
      obtain ⟨u, i2⟩ := z
      rw [hz] at hp
      obtain ⟨a1, a2, a3⟩ := h.name i u i2 hi hz
      rw [a3]
      dsimp only at hp ⊢
      cases hm : mustP L [58] i2 with
      | none => rw [hm] at hp; cases hp
      | some i3 =>
        rw [hm] at hp
        obtain ⟨b1, b2, b3⟩ := h.must (show eqN typeN [58] = false by decide) a2 hm
        rw [b3]
        dsimp only at hp ⊢
        cases hz : p i3 with
        | none => rw [hz] at hp; cases hp
        | some z =>
          obtain ⟨v, k⟩ := z
          rw [hz] at hp
          obtain ⟨c1, c2, c3⟩ := hv i3 v k b2 hz
          rw [c3]
          injection hp with hp
          injection hp with e1 hp
          injection hp with e2 e3
          subst e1 e2 e3
          exact ⟨by omega, by omega, rfl⟩
theorem Two.value1 (h : Two L L' n) {p p' : Nat → Option (Val × Nat)} (hv : ExtP n p p') : ExtP n (value1P L p) (value1P L' p') := by
  intro i x j hi hp
  have hin : i < n := by
    by_cases e : i = n
    · exfalso
      subst e
      have q1 := fun (s : List Nat) (hs : eqN typeN s = false) => show eatB L i s = false by
        rcases bool_tf (eatB L i s) with hb | hb
        · exact absurd ((h.eat hi hs).2 hb) (Nat.lt_irrefl _)
        · exact hb
      obtain ⟨z, hz⟩ := h.en
      unfold value1P at hp
      rw [hz] at hp
      dsimp only at hp
      rw [q1 _ (by decide), q1 _ (by decide), q1 _ (by decide), q1 _ (by decide), q1 _ (by decide)] at hp
      cases hp
    · omega
  unfold value1P at hp ⊢
  rw [h.lo i hin]
  cases hl : L[i]? with
  | none => rw [hl] at hp; cases hp
  | some t =>
  rw [hl] at hp
  dsimp only at hp ⊢
  rw [(h.eat hi (show eqN typeN [116, 114, 117, 101] = false by decide)).1, (h.eat hi (show eqN typeN [102, 97, 108, 115, 101] = false by decide)).1, (h.eat hi (show eqN typeN [110, 117, 108, 108] = false by decide)).1, (h.eat hi (show eqN typeN [91] = false by decide)).1, (h.eat hi (show eqN typeN [123] = false by decide)).1]
  have leaf : ∀ {v : Val}, some (v, i + 1) = some (x, j) → i < j ∧ j ≤ n ∧ some (v, i + 1) = some (x, j) := by
    intro v he
    refine ⟨?_, ?_, he⟩ <;> (injection he with he; injection he with _ he; omega)
  split at hp
  · rename_i h1; rw [if_pos h1]; exact leaf hp
  rename_i h1; rw [if_neg h1]
  split at hp
  · rename_i h1; rw [if_pos h1]; exact leaf hp
  rename_i h1; rw [if_neg h1]
  split at hp
  · rename_i h1; rw [if_pos h1]; exact leaf hp
  rename_i h1; rw [if_neg h1]
  split at hp
  · rename_i h1; rw [if_pos h1]; exact leaf hp
  rename_i h1; rw [if_neg h1]
  split at hp
  · rename_i h1; rw [if_pos h1]; exact leaf hp
  rename_i h1; rw [if_neg h1]
  split at hp
  · rename_i h1; rw [if_pos h1]; exact leaf hp
  rename_i h1; rw [if_neg h1]
  split at hp
  · rename_i h1
    rw [if_pos h1]
    cases hz : loopP (CodeA.stepL L p) 2002 (i + 1) [] with
    | none => rw [hz] at hp; cases hp
    | some z =>
      obtain ⟨l, k⟩ := z
      rw [hz] at hp
      obtain ⟨a1, a2, a3⟩ := loop_ext (h.stepL hv) 2002 (i + 1) [] l k (by omega) hz
      rw [a3]
      refine ⟨?_, ?_, hp⟩ <;> (injection hp with hp; injection hp with _ hp; omega)
  rename_i h1; rw [if_neg h1]
  split at hp
  · rename_i h1
    rw [if_pos h1]
    cases hz : loopP (CodeA.stepO L p) 2002 (i + 1) ([], []) with
    | none => rw [hz] at hp; cases hp
    | some z =>
      obtain ⟨l, k⟩ := z
      rw [hz] at hp
      obtain ⟨a1, a2, a3⟩ := loop_ext (h.stepO hv) 2002 (i + 1) ([], []) l k (by omega) hz
      rw [a3]
      refine ⟨?_, ?_, hp⟩ <;> (injection hp with hp; injection hp with _ hp; omega)
  · cases hp
theorem Two.value (h : Two L L' n) : ∀ f, ExtP n (valueP L f) (valueP L' f)
  | 0 => by intro i x j hi hp; rw [valueP] at hp; cases hp
  | f + 1 => by
    intro i x j hi hp
    rw [valueP] at hp ⊢
    exact h.value1 (h.value f) i x j hi hp
theorem Two.stepN (h : Two L L' n) {s : List Nat} (hs : eqN typeN s = false) : ExtS n (stepN L s) (stepN L' s) := by
  intro i a b j x hi hp
  unfold CodeA.stepN at hp ⊢
  obtain ⟨e1, e2⟩ := h.eat hi hs
  rw [e1]
  split at hp
  · rename_i h1
    rw [if_pos h1]
    have := e2 h1
    cases hz : nameP L (i + 1) with
    | none => rw [hz] at hp; cases hp
    | some z =>
      obtain ⟨v, k⟩ := z
      rw [hz] at hp
      obtain ⟨a1, a2, a3⟩ := h.name (i + 1) v k (by omega) hz
      rw [a3]
      injection hp with hp
      injection hp with e1 hp
      injection hp with e2 e3
      subst e1 e2 e3
      exact ⟨by omega, by omega, rfl⟩
  · rename_i h1
    rw [if_neg h1]
    injection hp with hp
    injection hp with e1 hp
    injection hp with e2 e3
    subst e1 e2 e3
    exact ⟨Or.inr ⟨rfl, Nat.le_refl _⟩, hi, rfl⟩
theorem Two.names (h : Two L L' n) {s : List Nat} (hs : eqN typeN s = false) : ExtP n (namesP L s) (namesP L' s) := by
  intro i x j hi hp
  unfold namesP at hp ⊢
  obtain ⟨e1, e2⟩ := h.eat hi hs
  rw [e1]
  have hle : (if eatB L i s = true then i + 1 else i) ≤ n ∧ i ≤ (if eatB L i s = true then i + 1 else i) := by
    split
    · rename_i h1; have := e2 h1; omega
    · exact ⟨hi, Nat.le_refl _⟩
  revert hp hle
  generalize (if eatB L i s = true then i + 1 else i) = i1
  intro hp hle
  cases hz : nameP L i1 with
  | none => rw [hz] at hp; cases hp
  | some z =>
    obtain ⟨v, k⟩ := z
    rw [hz] at hp
    obtain ⟨a1, a2, a3⟩ := h.name i1 v k hle.1 hz
    rw [a3]
    obtain ⟨b1, b2, b3⟩ := loop_ext (h.stepN hs) 2002 k [v] x j a2 hp
    exact ⟨by omega, b2, b3⟩
theorem Two.stepI (h : Two L L' n) {s : List Nat} (hs : eqN typeN s = false) (f : Nat) : ExtS n (stepI L s f) (stepI L' s f) := by
  intro i a b j x hi hp
  unfold CodeA.stepI at hp ⊢
  obtain ⟨e1, e2⟩ := h.eat hi hs
  rw [e1]
  split at hp
  · rename_i h1
    rw [if_pos h1]
    have := e2 (by simp only [Bool.and_eq_true] at h1; exact h1.2)
    injection hp with hp
    injection hp with e1 hp
    injection hp with e2 e3
    subst e1 e2 e3
    exact ⟨by omega, by omega, rfl⟩
  rename_i h1
  rw [if_neg h1]
  cases hz : nameP L i with
  | none => rw [hz] at hp; cases hp
  | some z =>
  obtain ⟨u, i2⟩ := z
  rw [hz] at hp
  obtain ⟨a1, a2, a3⟩ := h.name i u i2 hi hz
  rw [a3]
  dsimp only at hp ⊢
  cases hm : mustP L [58] i2 with
  | none => rw [hm] at hp; cases hp
  | some i3 =>
  rw [hm] at hp
  obtain ⟨b1, b2, b3⟩ := h.must (show eqN typeN [58] = false by decide) a2 hm
  rw [b3]
  dsimp only at hp ⊢
  cases ht : typeP L f i3 with
  | none => rw [ht] at hp; cases hp
  | some z =>
  obtain ⟨t, i4⟩ := z
  rw [ht] at hp
  obtain ⟨c1, c2, c3⟩ := h.type f i3 t i4 b2 ht
  rw [c3]
  dsimp only at hp ⊢
  obtain ⟨f1, f2⟩ := h.eat c2 (show eqN typeN [61] = false by decide)
  rw [f1]
  split at hp
  · rename_i h2
    rw [if_pos h2]
    have := f2 h2
    cases hv : valueP L f (i4 + 1) with
    | none => rw [hv] at hp; cases hp
    | some z =>
      obtain ⟨v, i5⟩ := z
      rw [hv] at hp
      obtain ⟨d1, d2, d3⟩ := h.value f (i4 + 1) v i5 (by omega) hv
      rw [d3]
      injection hp with hp
      injection hp with e1 hp
      injection hp with e2 e3
      subst e1 e2 e3
      exact ⟨by omega, by omega, rfl⟩
  · rename_i h2
    rw [if_neg h2]
    injection hp with hp
    injection hp with e1 hp
    injection hp with e2 e3
    subst e1 e2 e3
    exact ⟨by omega, by omega, rfl⟩
/-- as a reader, but it may read nothing -/
def ExtQ {α : Type} (n : Nat) (p p' : Nat → Option (α × Nat)) : Prop := ∀ i x j, i ≤ n → p i = some (x, j) → i ≤ j ∧ j ≤ n ∧ p' i = some (x, j)
theorem Two.inputs (h : Two L L' n) {s : List Nat} (hs : eqN typeN s = false) (f : Nat) : ExtQ n (inputsP L s f) (inputsP L' s f) := by
  intro i x j hi hp
  unfold inputsP at hp ⊢
  cases hz : loopP (CodeA.stepI L s f) 2002 i (true, []) with
  | none => rw [hz] at hp; cases hp
  | some z =>
    obtain ⟨y, k⟩ := z
    rw [hz] at hp
    obtain ⟨a1, a2, a3⟩ := loop_ext (h.stepI hs f) 2002 i (true, []) y k hi hz
    rw [a3]
    refine ⟨?_, ?_, hp⟩ <;> (injection hp with hp; injection hp with _ hp; omega)
theorem Two.union (h : Two L L' n) (k : Int) (m : List Nat) : ExtQ n (unionP L k m) (unionP L' k m) := by
  intro i x j hi hp
  unfold unionP at hp ⊢
  cases hm : mustP L [61] i with
  | none => rw [hm] at hp; cases hp
  | some i3 =>
  rw [hm] at hp
  obtain ⟨b1, b2, b3⟩ := h.must (show eqN typeN [61] = false by decide) hi hm
  rw [b3]
  dsimp only at hp ⊢
  cases hz : namesP L [124] i3 with
  | none => rw [hz] at hp; cases hp
  | some z =>
    obtain ⟨y, k⟩ := z
    rw [hz] at hp
    obtain ⟨a1, a2, a3⟩ := h.names (show eqN typeN [124] = false by decide) i3 y k b2 hz
    rw [a3]
    refine ⟨?_, ?_, hp⟩ <;> (injection hp with hp; injection hp with _ hp; omega)
theorem Two.input (h : Two L L' n) (f : Nat) (k : Int) (m : List Nat) : ExtQ n (inputP L f k m) (inputP L' f k m) := by
  intro i x j hi hp
  unfold inputP at hp ⊢
  cases hm : mustP L [123] i with
  | none => rw [hm] at hp; cases hp
  | some i3 =>
  rw [hm] at hp
  obtain ⟨b1, b2, b3⟩ := h.must (show eqN typeN [123] = false by decide) hi hm
  rw [b3]
  dsimp only at hp ⊢
  cases hz : inputsP L [125] f i3 with
  | none => rw [hz] at hp; cases hp
  | some z =>
    obtain ⟨y, k⟩ := z
    rw [hz] at hp
    obtain ⟨a1, a2, a3⟩ := h.inputs (show eqN typeN [125] = false by decide) f i3 y k b2 hz
    rw [a3]
    refine ⟨?_, ?_, hp⟩ <;> (injection hp with hp; injection hp with _ hp; omega)
theorem Two.enumStep (h : Two L L' n) : ExtS n (enumStep L) (enumStep L') := by
  intro i a b j x hi hp
  unfold CodeA.enumStep at hp ⊢
  obtain ⟨e1, e2⟩ := h.eat hi (show eqN typeN [125] = false by decide)
  rw [e1, (h.word hi (show eqN typeN [116, 114, 117, 101] = false by decide)).1, (h.word hi (show eqN typeN [102, 97, 108, 115, 101] = false by decide)).1, (h.word hi (show eqN typeN [110, 117, 108, 108] = false by decide)).1]
  split at hp
  · rename_i h1
    rw [if_pos h1]
    have := e2 (by simp only [Bool.and_eq_true] at h1; exact h1.2)
    injection hp with hp
    injection hp with e1 hp
    injection hp with e2 e3
    subst e1 e2 e3
    exact ⟨by omega, by omega, rfl⟩
  rename_i h1
  rw [if_neg h1]
  split at hp
  · cases hp
  rename_i h2
  rw [if_neg h2]
  cases hz : nameP L i with
  | none => rw [hz] at hp; cases hp
  | some z =>
    obtain ⟨u, i2⟩ := z
    rw [hz] at hp
    obtain ⟨a1, a2, a3⟩ := h.name i u i2 hi hz
    rw [a3]
    injection hp with hp
    injection hp with e1 hp
    injection hp with e2 e3
    subst e1 e2 e3
    exact ⟨by omega, by omega, rfl⟩
theorem Two.enum (h : Two L L' n) (k : Int) (m : List Nat) : ExtQ n (enumP L k m) (enumP L' k m) := by
  intro i x j hi hp
  unfold enumP at hp ⊢
  cases hm : mustP L [123] i with
  | none => rw [hm] at hp; cases hp
  | some i3 =>
  rw [hm] at hp
  obtain ⟨b1, b2, b3⟩ := h.must (show eqN typeN [123] = false by decide) hi hm
  rw [b3]
  dsimp only at hp ⊢
  cases hz : loopP (CodeA.enumStep L) 2002 i3 (true, []) with
  | none => rw [hz] at hp; cases hp
  | some z =>
    obtain ⟨y, k⟩ := z
    rw [hz] at hp
    obtain ⟨a1, a2, a3⟩ := loop_ext h.enumStep 2002 i3 (true, []) y k b2 hz
    rw [a3]
    refine ⟨?_, ?_, hp⟩ <;> (injection hp with hp; injection hp with _ hp; omega)
theorem Two.args (h : Two L L' n) (f : Nat) : ExtQ n (argsP L f) (argsP L' f) := by
  intro i x j hi hp
  unfold argsP at hp ⊢
  obtain ⟨e1, e2⟩ := h.eat hi (show eqN typeN [40] = false by decide)
  rw [e1]
  split at hp
  · rename_i h1
    rw [if_pos h1]
    have := e2 h1
    obtain ⟨a1, a2, a3⟩ := h.inputs (show eqN typeN [41] = false by decide) f (i + 1) x j (by omega) hp
    exact ⟨by omega, a2, a3⟩
  · rename_i h1
    rw [if_neg h1]
    refine ⟨?_, ?_, hp⟩ <;> (injection hp with hp; injection hp with _ hp; omega)
theorem Two.fieldStep (h : Two L L' n) (f : Nat) : ExtS n (fieldStep L f) (fieldStep L' f) := by
  intro i a b j x hi hp
  unfold CodeA.fieldStep at hp ⊢
  obtain ⟨e1, e2⟩ := h.eat hi (show eqN typeN [125] = false by decide)
  rw [e1]
  split at hp
  · rename_i h1
    rw [if_pos h1]
    have := e2 (by simp only [Bool.and_eq_true] at h1; exact h1.2)
    injection hp with hp
    injection hp with e1 hp
    injection hp with e2 e3
    subst e1 e2 e3
    exact ⟨by omega, by omega, rfl⟩
  rename_i h1
  rw [if_neg h1]
  cases hz : nameP L i with
  | none => rw [hz] at hp; cases hp
  | some z =>
  obtain ⟨u, i2⟩ := z
  rw [hz] at hp
  obtain ⟨a1, a2, a3⟩ := h.name i u i2 hi hz
  rw [a3]
  dsimp only at hp ⊢
  cases hz : argsP L f i2 with
  | none => rw [hz] at hp; cases hp
  | some z =>
  obtain ⟨as, i3⟩ := z
  rw [hz] at hp
  obtain ⟨a1', a2', a3⟩ := h.args f i2 as i3 a2 hz
  rw [a3]
  dsimp only at hp ⊢
  cases hm : mustP L [58] i3 with
  | none => rw [hm] at hp; cases hp
  | some i4 =>
  rw [hm] at hp
  obtain ⟨b1, b2, b3⟩ := h.must (show eqN typeN [58] = false by decide) a2' hm
  rw [b3]
  dsimp only at hp ⊢
  cases ht : typeP L f i4 with
  | none => rw [ht] at hp; cases hp
  | some z =>
    obtain ⟨t, i5⟩ := z
    rw [ht] at hp
    obtain ⟨c1, c2, c3⟩ := h.type f i4 t i5 b2 ht
    rw [c3]
    injection hp with hp
    injection hp with e1 hp
    injection hp with e2 e3
    subst e1 e2 e3
    exact ⟨by omega, by omega, rfl⟩
theorem Two.fields (h : Two L L' n) (f : Nat) (k : Int) (m : List Nat) : ExtQ n (fieldsP L f k m) (fieldsP L' f k m) := by
  intro i x j hi hp
  unfold fieldsP implP at hp ⊢
  obtain ⟨e1, e2⟩ := h.eat hi (show eqN typeN [105, 109, 112, 108, 101, 109, 101, 110, 116, 115] = false by decide)
  rw [e1]
  have himp : ∀ ns i3, (if (eqI k 1 && eatB L i [105, 109, 112, 108, 101, 109, 101, 110, 116, 115]) = true then namesP L [38] (i + 1) else some ([], i)) = some (ns, i3) → i ≤ i3 ∧ i3 ≤ n ∧ (if (eqI k 1 && eatB L i [105, 109, 112, 108, 101, 109, 101, 110, 116, 115]) = true then namesP L' [38] (i + 1) else some ([], i)) = some (ns, i3) := by
    intro ns i3 hz
    split at hz
    · rename_i h1
      rw [if_pos h1]
      have := e2 (by simp only [Bool.and_eq_true] at h1; exact h1.2)
      obtain ⟨a1, a2, a3⟩ := h.names (show eqN typeN [38] = false by decide) (i + 1) ns i3 (by omega) hz
      exact ⟨by omega, a2, a3⟩
    · rename_i h1
      rw [if_neg h1]
      refine ⟨?_, ?_, hz⟩ <;> (injection hz with hz; injection hz with _ hz; omega)
  cases hz : (if (eqI k 1 && eatB L i [105, 109, 112, 108, 101, 109, 101, 110, 116, 115]) = true then namesP L [38] (i + 1) else some ([], i)) with
  | none => rw [hz] at hp; cases hp
  | some z =>
  obtain ⟨ns, i3⟩ := z
  rw [hz] at hp
  obtain ⟨a1, a2, a3⟩ := himp ns i3 hz
  rw [a3]
  dsimp only at hp ⊢
  cases hm : mustP L [123] i3 with
  | none => rw [hm] at hp; cases hp
  | some i4 =>
  rw [hm] at hp
  obtain ⟨b1, b2, b3⟩ := h.must (show eqN typeN [123] = false by decide) a2 hm
  rw [b3]
  dsimp only at hp ⊢
  cases hz : loopP (CodeA.fieldStep L f) 2002 i4 (true, []) with
  | none => rw [hz] at hp; cases hp
  | some z =>
    obtain ⟨y, k⟩ := z
    rw [hz] at hp
    obtain ⟨c1, c2, c3⟩ := loop_ext (h.fieldStep f) 2002 i4 (true, []) y k b2 hz
    rw [c3]
    refine ⟨?_, ?_, hp⟩ <;> (injection hp with hp; injection hp with _ hp; omega)
theorem Two.decl (h : Two L L' n) (f : Nat) (k : Int) {i : Nat} {x : TDef} {j : Nat} (hi : i < n) (hp : declP L f k i = some (x, j)) : i < j ∧ j ≤ n ∧ declP L' f k i = some (x, j) := by
  unfold declP at hp ⊢
  cases hz : nameP L (i + 1) with
  | none => rw [hz] at hp; cases hp
  | some z =>
  obtain ⟨u, i2⟩ := z
  rw [hz] at hp
  obtain ⟨a1, a2, a3⟩ := h.name (i + 1) u i2 (by omega) hz
  rw [a3]
  dsimp only at hp ⊢
  split at hp
  · rename_i h1; rw [if_pos h1]
    obtain ⟨b1, b2, b3⟩ := h.union k u i2 x j a2 hp
    exact ⟨by omega, b2, b3⟩
  rename_i h1; rw [if_neg h1]
  split at hp
  · rename_i h1; rw [if_pos h1]
    obtain ⟨b1, b2, b3⟩ := h.enum k u i2 x j a2 hp
    exact ⟨by omega, b2, b3⟩
  rename_i h1; rw [if_neg h1]
  split at hp
  · rename_i h1; rw [if_pos h1]
    obtain ⟨b1, b2, b3⟩ := h.input f k u i2 x j a2 hp
    exact ⟨by omega, b2, b3⟩
  · rename_i h1; rw [if_neg h1]
    obtain ⟨b1, b2, b3⟩ := h.fields f k u i2 x j a2 hp
    exact ⟨by omega, b2, b3⟩
theorem Two.one (h : Two L L' n) (f : Nat) {i : Nat} {x : TDef} {j : Nat} (hi : i < n) (hp : oneP L f i = some (x, j)) : i < j ∧ j ≤ n ∧ oneP L' f i = some (x, j) := by
  have hw : ∀ s, wordB L' i s = wordB L i s := fun s => by unfold wordB; rw [h.lo i hi]
  unfold oneP at hp ⊢
  simp only [hw]
  split at hp
  · rename_i h1; rw [if_pos h1]; exact h.decl f _ hi hp
  rename_i h1; rw [if_neg h1]
  split at hp
  · rename_i h1; rw [if_pos h1]; exact h.decl f _ hi hp
  rename_i h1; rw [if_neg h1]
  split at hp
  · rename_i h1; rw [if_pos h1]; exact h.decl f _ hi hp
  rename_i h1; rw [if_neg h1]
  split at hp
  · rename_i h1; rw [if_pos h1]; exact h.decl f _ hi hp
  rename_i h1; rw [if_neg h1]
  split at hp
  · rename_i h1; rw [if_pos h1]; exact h.decl f _ hi hp
  · cases hp
theorem Two.one_end (h : Two L L' n) (f : Nat) : oneP L f n = none := by
  obtain ⟨x, hx⟩ := h.en
  have hw : ∀ s, wordB L n s = false := fun s => by unfold wordB; rw [hx]; rfl
  unfold oneP
  simp only [hw]
  rfl
theorem Two.types (h : Two L L' n) (hk : ∀ i t, i < n → L[i]? = some t → t.k ≠ 0) : ∀ (f i : Nat) (a x : Bool × List TDef) (j : Nat), i ≤ n → loopP (typeStep L) f i a = some (x, j) → j = n ∧ x.1 = false ∧ ∃ c, c + i ≤ n ∧ ∀ g, loopP (typeStep L') (c + g) i a = loopP (typeStep L') g n x
  | 0, i, a, x, j, hi, hp => by rw [loopP] at hp; cases hp
  | f + 1, i, a, x, j, hi, hp => by
    rw [loopP] at hp
    by_cases e : i = n
    · subst e
      unfold typeStep at hp
      rw [h.one_end] at hp
      split at hp
      · cases hp
      · rename_i b1 j1 y1 hb
        split at hb
        · rename_i h1
          injection hb with hb
          injection hb with e1 hb
          injection hb with e2 e3
          injection hp with hp
          injection hp with e4 e5
          subst e2 e3 e4 e5
          refine ⟨rfl, ?_, 0, by omega, fun g => by rw [Nat.zero_add]⟩
          simp only [Bool.and_eq_true, Bool.not_eq_true'] at h1
          exact h1.1
        · cases hb
      · rename_i b1 j1 y1 hb
        split at hb
        · cases hb
        · cases hb
    · have hin : i < n := by omega
      have hkb : ∀ M : List Tok, M[i]? = L[i]? → kindB' M i 0 = false ∨ L[i]? = none := by
        intro M hM
        unfold kindB'
        rw [hM]
        cases hl : L[i]? with
        | none => exact Or.inr rfl
        | some t =>
          left
          have := hk i t hin hl
          dsimp only
          rw [eqI_eq]
          simpa using this
      have hone : ∀ M : List Tok, M[i]? = L[i]? → typeStep M i a = match oneP M 24 i with | none => none | some (t, j) => some (false, j, (false, a.2 ++ [t])) := by
        intro M hM
        unfold typeStep
        have hf : (!a.1 && kindB' M i 0) = false := by
          rcases hkb M hM with h1 | h1
          · rw [h1, Bool.and_false]
          · have : kindB' M i 0 = false := by unfold kindB'; rw [hM, h1]
            rw [this, Bool.and_false]
        rw [hf, if_neg (by decide)]
        cases oneP M 24 i with
        | none => rfl
        | some z => rfl
      rw [hone L rfl] at hp
      cases hz : oneP L 24 i with
      | none => rw [hz] at hp; cases hp
      | some z =>
        obtain ⟨t, k⟩ := z
        rw [hz] at hp
        dsimp only at hp
        obtain ⟨a1, a2, a3⟩ := h.one 24 hin hz
        obtain ⟨b1, b2, c, hc, hg⟩ := h.types hk f k _ x j a2 hp
        refine ⟨b1, b2, c + 1, by omega, fun g => ?_⟩
        rw [show c + 1 + g = (c + g) + 1 by omega, loopP, hone L' (h.lo i hin), a3]
        exact hg g
/-- one object more -/
def zzI : TDef := ⟨1, [90, 122, 57], [.mk [122, 122] [] (.base [73, 110, 116] false) false Val.none], []⟩
theorem oneT_more (A : List Tok) (a : Fin 8 → Int) (g : Nat) (l : List TDef) : loopP (typeStep (A ++ moreT a)) (g + 2) A.length (false, l) = some ((false, l ++ [zzI]), A.length + 7) := by
  generalize hn : A.length = n
  have hx : ∀ m, (A ++ moreT a)[n + m]? = (moreT a)[m]? := by
    intro m
    rw [List.getElem?_append_right (by omega)]
    congr 1
    omega
  have h0 : (A ++ moreT a)[n]? = some ⟨1, [116, 121, 112, 101], 0, a 0⟩ := hx 0
  have h1 : (A ++ moreT a)[n + 1]? = some ⟨1, [90, 122, 57], 0, a 1⟩ := hx 1
  have h2 : (A ++ moreT a)[n + 1 + 1]? = some ⟨4, [123], 0, a 2⟩ := hx 2
  have h3 : (A ++ moreT a)[n + 1 + 1 + 1]? = some ⟨1, [122, 122], 0, a 3⟩ := hx 3
  have h4 : (A ++ moreT a)[n + 1 + 1 + 1 + 1]? = some ⟨4, [58], 0, a 4⟩ := hx 4
  have h5 : (A ++ moreT a)[n + 1 + 1 + 1 + 1 + 1]? = some ⟨1, [73, 110, 116], 0, a 5⟩ := hx 5
  have h6 : (A ++ moreT a)[n + 1 + 1 + 1 + 1 + 1 + 1]? = some ⟨4, [125], 0, a 6⟩ := hx 6
  have h7 : (A ++ moreT a)[n + 1 + 1 + 1 + 1 + 1 + 1 + 1]? = some ⟨0, [], 0, a 7⟩ := hx 7
  revert h0 h1 h2 h3 h4 h5 h6 h7
  generalize A ++ moreT a = M
  intro h0 h1 h2 h3 h4 h5 h6 h7
  have t5 : typeP M 24 (n + 1 + 1 + 1 + 1 + 1) = some (.base [73, 110, 116] false, n + 1 + 1 + 1 + 1 + 1 + 1) := by
    rw [typeP, eatB, signB, wordB, h5]
    dsimp only
    rw [if_neg (by decide), nameP, h5]
    dsimp only
    rw [if_pos (by decide)]
    dsimp only
    rw [eatB, signB, wordB, h6]
    rfl
  have s3 : fieldStep M 24 (n + 1 + 1 + 1) (true, []) = some (false, n + 1 + 1 + 1 + 1 + 1 + 1, (false, [.mk [122, 122] [] (.base [73, 110, 116] false) false Val.none])) := by
    rw [fieldStep]
    dsimp only
    rw [if_neg (by simp), nameP, h3]
    dsimp only
    rw [if_pos (by decide)]
    dsimp only
    rw [argsP, eatB, signB, wordB, h4]
    dsimp only
    rw [if_neg (by decide)]
    dsimp only
    rw [mustP, eatB, signB, wordB, h4]
    dsimp only
    rw [if_pos (by decide)]
    dsimp only
    rw [t5]
    rfl
  have s6 : ∀ x, fieldStep M 24 (n + 1 + 1 + 1 + 1 + 1 + 1) (false, x) = some (true, n + 1 + 1 + 1 + 1 + 1 + 1 + 1, (false, x)) := by
    intro x
    rw [fieldStep, eatB, signB, wordB, h6]
    rfl
  have o : oneP M 24 n = some (zzI, n + 1 + 1 + 1 + 1 + 1 + 1 + 1) := by
    rw [oneP, wordB, h0]
    dsimp only
    rw [if_pos (by decide), declP, nameP, h1]
    dsimp only
    rw [if_pos (by decide)]
    dsimp only
    rw [if_neg (by decide), if_neg (by decide), if_neg (by decide), fieldsP, implP, eatB, signB, wordB, h2]
    dsimp only
    rw [if_neg (by decide)]
    dsimp only
    rw [mustP, eatB, signB, wordB, h2]
    dsimp only
    rw [if_pos (by decide)]
    dsimp only
    rw [loopP, s3]
    dsimp only
    rw [loopP, s6]
    rfl
  rw [loopP, typeStep, kindB', h0]
  dsimp only
  rw [if_neg (by decide), o]
  dsimp only
  rw [loopP, typeStep, kindB', h7]
  rfl
theorem types_more {s : List Nat} (hs : s.length ≤ 1800) {l : List TDef} (h : typesS s = some l) : typesS (s ++ 10 :: moreN) = some (l ++ [zzI]) := by
  unfold typesS at h ⊢
  cases hL : tokensS s with
  | none => rw [hL] at h; cases h
  | some L =>
    rw [hL] at h
    dsimp only at h
    obtain ⟨A, x, a, rfl, hL'⟩ := tokens_more hs hL
    rw [hL']
    dsimp only
    obtain ⟨hT, hlen⟩ : TokL (A ++ [(⟨0, [], 0, x⟩ : Tok)]) ∧ (A ++ [(⟨0, [], 0, x⟩ : Tok)]).length ≤ 2001 := by
      obtain ⟨_, st', _, rfl, L, at', e, _, h1, h2⟩ := tokens_q s []
      by_cases e0 : e = 0
      · rw [if_pos e0, hL] at h2
        obtain rfl := Option.some.inj h2
        exact h1 e0
      · rw [if_neg e0, hL] at h2
        cases h2
    have hk : ∀ t ∈ A, t.k ≠ 0 := by
      obtain ⟨L', a', e, h'⟩ := hT
      have := List.append_inj' e rfl
      rw [this.1]
      exact h'
    have h2 : Two (A ++ [⟨0, [], 0, x⟩]) (A ++ moreT a) A.length := ⟨fun i hi => by rw [List.getElem?_append_left hi, List.getElem?_append_left hi], ⟨x, by rw [List.getElem?_append_right (Nat.le_refl _), Nat.sub_self]; rfl⟩, ⟨a 0, by rw [List.getElem?_append_right (Nat.le_refl _), Nat.sub_self]; rfl⟩⟩
    cases hw : loopP (typeStep (A ++ [⟨0, [], 0, x⟩])) 2002 0 (true, []) with
    | none => rw [hw] at h; cases h
    | some z =>
      obtain ⟨y, j⟩ := z
      rw [hw] at h
      obtain ⟨_, h3, c, hc, hg⟩ := h2.types (fun i t hi ht => hk t (by rw [List.getElem?_append_left hi] at ht; exact List.mem_of_getElem? ht)) 2002 0 (true, []) y j (Nat.zero_le _) hw
      have hy : y = (false, l) := by
        obtain ⟨y1, y2⟩ := y
        injection h with h
        rw [show y1 = false from h3, show y2 = l from h]
      rw [List.length_append] at hlen
      have hA : A.length ≤ 2000 := by simpa using hlen
      rw [show 2002 = c + ((2000 - c) + 2) by omega, hg, hy, oneT_more]
      rfl
end Go.Cb.CodeA
/- What functions of the abstract machine answer. No conditions but those that each theorem names. -/
set_option maxRecDepth 20000
set_option linter.unusedSimpArgs false
set_option linter.unusedVariables false
namespace Go.Cb.CodeA
open Go Go.Cb

def zzN : List Nat := [90, 122, 57]
theorem lk_app (l : List TDef) (n : List Nat) : lk (l ++ [zzI]) n = (lk l n).or (if eqN n zzN then some zzI else none) := by
  unfold lk
  rw [List.find?_append]
  congr 1
  rcases bool_tf (eqN n zzN) with h | h
  · have h' : eqN n zzI.n = true := h
    simp only [List.find?_cons, h', h, if_true]
  · have h' : eqN n zzI.n = false := h
    simp [List.find?_cons, h', h]
section
variable {l : List TDef} (hz : lk l zzN = none)
theorem lk_some {n : List Nat} (h : (lk l n).isSome = true) : lk (l ++ [zzI]) n = lk l n := by
  rw [lk_app]
  cases hl : lk l n with
  | none => rw [hl] at h; cases h
  | some t => rfl
theorem lk_ne {n : List Nat} (h : n ≠ zzN) : lk (l ++ [zzI]) n = lk l n := by
  rw [lk_app, (eqN_false _ _).2 h]
  cases lk l n <;> rfl
theorem namesGo_m (t : TDef) : ∀ ns, (namesGo l t ns).1 = 0 → (namesGo (l ++ [zzI]) t ns).1 = 0
  | [] => fun _ => by rw [namesGo]
  | n :: ns => fun h => by
    rw [namesGo] at h ⊢
    split at h
    · rename_i h1; rw [if_pos h1]; exact namesGo_m t ns h
    rename_i h1; rw [if_neg h1]
    split at h
    · simp at h
    rename_i h2
    have hs : (lk l n).isSome = true := by rw [Option.isSome_iff_ne_none]; simpa using h2
    rw [lk_some hs, if_neg h2]
    split at h
    · simp at h
    rename_i h3; rw [if_neg h3]
    split at h
    · simp at h
    rename_i h4; rw [if_neg h4]
    exact namesGo_m t ns h
include hz
theorem lk_zz : lk (l ++ [zzI]) zzN = some zzI := by
  rw [lk_app, hz, eqN_refl]
  rfl
theorem kindB_m (n : List Nat) {k : Int} (hk : eqI 1 k = false) : kindB (l ++ [zzI]) n k = kindB l n k := by
  by_cases h : n = zzN
  · subst h
    unfold kindB
    rw [lk_zz hz, hz]
    exact hk
  · unfold kindB
    rw [lk_ne h]
theorem compB_m {n : List Nat} (h : compB l n = true) : compB (l ++ [zzI]) n = true := by
  by_cases e : n = zzN
  · subst e
    unfold compB kindB at h
    rw [hz] at h
    simp at h
  · unfold compB kindB at h ⊢
    rw [lk_ne e]
    exact h
theorem fitsT_m (k n : Int) (s : List Nat) (ks : List (List Nat)) (cs : List (TRef → Bool)) : ∀ t, fitsT (l ++ [zzI]) k n s ks cs t = fitsT l k n s ks cs t
  | .wrap u b => by rw [fitsT, fitsT, fitsT_m k n s ks cs u]
  | .base u b => by
    rw [fitsT, fitsT]
    by_cases e : u = zzN
    · subst e
      rw [lk_zz hz, hz]
      rfl
    · rw [lk_ne e]
theorem fitsV_m : ∀ v : Val, fitsV (l ++ [zzI]) v = fitsV l v := by
  intro v
  refine Val.rec (motive_1 := fun v => fitsV (l ++ [zzI]) v = fitsV l v) (motive_2 := fun vs => fitsL (l ++ [zzI]) vs = fitsL l vs) ?_ ?_ ?_ v
  · intro k n s ks ls ih
    funext t
    rw [fitsV, fitsV, ih, fitsT_m hz]
  · rw [fitsL, fitsL]
  · intro v vs h1 h2
    rw [fitsL, fitsL, h1, h2]
theorem fieldS_m (f : FDef) : ∀ inn, (fieldS l f inn).1 = 0 → (fieldS (l ++ [zzI]) f inn).1 = 0 := by
  refine FDef.rec (motive_1 := fun f => ∀ inn, (fieldS l f inn).1 = 0 → (fieldS (l ++ [zzI]) f inn).1 = 0) (motive_2 := fun as => (argsS l as).1 = 0 → (argsS (l ++ [zzI]) as).1 = 0) ?_ ?_ ?_ f
  · intro nm as t has v ih inn h
    rw [fieldS] at h ⊢
    by_cases e : t.baseN = zzN
    · rw [e, hz] at h
      simp only [Option.isSome_none, Bool.not_false, Bool.true_and] at h
      rw [if_pos (show (!scalarB zzN) = true by decide)] at h
      simp at h
    rw [lk_ne e, kindB_m hz _ (show eqI 1 4 = false from rfl), kindB_m hz _ (show eqI 1 5 = false from rfl), fitsV_m hz]
    split at h
    · simp at h
    rename_i h1; rw [if_neg h1]
    split at h
    · simp at h
    rename_i h1; rw [if_neg h1]
    split at h
    · simp at h
    rename_i h1; rw [if_neg h1]
    split at h
    · simp at h
    rename_i h1; rw [if_neg h1]
    split at h
    · simp at h
    rename_i h1; rw [if_neg h1]
    split at h
    · rename_i h1; rw [if_pos h1]; exact h
    rename_i h1; rw [if_neg h1]
    exact ih h
  · intro _; rw [argsS]
  · intro a as h1 h2 h
    rw [argsS] at h ⊢
    rw [kindB_m hz _ (show eqI 1 5 = false from rfl)]
    split at h
    · rename_i h3
      rw [if_pos h3]
      split at h
      · simp at h
      · rename_i h4
        rw [if_neg h4]
        exact h2 h
    · rename_i h3
      rw [if_neg h3]
      rw [fold_iff] at h ⊢
      exact ⟨h1 true h.1, h2 h.2⟩
theorem fieldsGo_m (inn : Bool) : ∀ fs, (fieldsGo l inn fs).1 = 0 → (fieldsGo (l ++ [zzI]) inn fs).1 = 0
  | [] => fun _ => by rw [fieldsGo]
  | f :: fs => fun h => by
    rw [fieldsGo, fold_iff] at h ⊢
    exact ⟨fieldS_m hz f inn h.1, fieldsGo_m inn fs h.2⟩
theorem checkS_m (t : TDef) (h : (checkS l t).1 = 0) : (checkS (l ++ [zzI]) t).1 = 0 := by
  unfold checkS at h ⊢
  split at h
  · rename_i h1; rw [if_pos h1]; exact h
  rename_i h1; rw [if_neg h1]
  rw [fold_iff, fold_iff, fold_iff] at h ⊢
  exact ⟨h.1, h.2.1, fieldsGo_m hz _ _ h.2.2.1, namesGo_m _ _ h.2.2.2⟩
theorem matchB_m : ∀ t u, matchB l t u = true → matchB (l ++ [zzI]) t u = true
  | .wrap t _, .wrap u _ => fun h => by rw [matchB] at h ⊢; exact matchB_m t u h
  | .base n _, .base k _ => fun h => by
    rw [matchB] at h ⊢
    simp only [Bool.or_eq_true, Bool.and_eq_true] at h ⊢
    rcases h with h | h
    · exact Or.inl h
    · exact Or.inr ⟨compB_m hz h.1, h.2⟩
  | .wrap _ _, .base _ _ => fun h => by cases h
  | .base _ _, .wrap _ _ => fun h => by cases h
theorem untold_m (fs : List FDef) (x : FDef) (h : untold (l ++ [zzI]) fs x = true) : untold l fs x = true := by
  unfold untold at h ⊢
  cases hf : fldAt fs x.name with
  | none => rfl
  | some g =>
    rw [hf] at h
    dsimp only at h ⊢
    rcases bool_tf (matchB l g.ty x.ty) with hm | hm
    · rw [matchB_m hz _ _ hm] at h; cases h
    · rw [hm]; rfl
theorem argsB_m (t : TDef) (as : List FDef) (h : argsB l t as = true) : argsB (l ++ [zzI]) t as = true := by
  unfold argsB at h ⊢
  match as, h with
  | [a, b], h =>
    dsimp only at h ⊢
    simp only [Bool.and_eq_true] at h ⊢
    refine ⟨h.1, h.2.1, ?_⟩
    have h3 := h.2.2
    revert h3
    cases b.ty with
    | wrap u c => exact fun h => by cases h
    | base m c =>
      cases c with
      | false => exact fun h => by cases h
      | true =>
        intro h3
        dsimp only at h3 ⊢
        simp only [Bool.and_eq_true] at h3 ⊢
        rw [lk_some h3.1]
        refine ⟨h3.1, h3.2.1, ?_⟩
        have h4 := h3.2.2
        simp only [Bool.not_eq_true', List.any_eq_false] at h4 ⊢
        intro x hx hu
        exact h4 x hx (untold_m hz _ _ hu)
theorem changeB_m (f : FDef) (h : changeB l f = true) : changeB (l ++ [zzI]) f = true := by
  unfold changeB at h ⊢
  simp only [Bool.and_eq_true] at h ⊢
  have h1 := h.1
  have hs : (lk l (verbS f.name).2).isSome = true := by
    cases hl : lk l (verbS f.name).2 with
    | none => rw [hl] at h1; simp at h1
    | some t => rfl
  rw [lk_some hs]
  refine ⟨h1, ?_⟩
  have h2 := h.2
  cases hc : eqN (verbS f.name).1 deleteN with
  | true => rw [hc] at h2; exact h2
  | false => rw [hc] at h2; exact argsB_m hz _ _ h2
theorem lookB_m (f : FDef) (h : lookB l f = true) : lookB (l ++ [zzI]) f = true := by
  unfold lookB at h ⊢
  split at h
  · simp only [Bool.and_eq_true] at h ⊢
    exact ⟨h.1, h.2.1, compB_m hz h.2.2⟩
  · cases h
theorem allB_m (f : FDef) (h : allB l f = true) : allB (l ++ [zzI]) f = true := by
  unfold allB at h ⊢
  split at h
  · simp only [Bool.and_eq_true] at h ⊢
    exact ⟨compB_m hz h.1, h.2⟩
  · cases h
theorem rolesGo_m (t : TDef) : ∀ fs, (rolesGo l t fs).1 = 0 → (rolesGo (l ++ [zzI]) t fs).1 = 0
  | [] => fun _ => by rw [rolesGo]
  | f :: fs => fun h => by
    have ih := rolesGo_m t fs
    rw [rolesGo] at h ⊢
    rcases bool_tf (eqN t.n [81, 117, 101, 114, 121]) with h1 | h1
    · rw [h1, if_pos rfl] at h ⊢
      rcases bool_tf (lookB l f || allB l f) with h4 | h4
      · have h5 : (lookB (l ++ [zzI]) f || allB (l ++ [zzI]) f) = true := by
          simp only [Bool.or_eq_true] at h4 ⊢
          rcases h4 with h4 | h4
          · exact Or.inl (lookB_m hz f h4)
          · exact Or.inr (allB_m hz f h4)
        rw [h4, if_neg (show ¬ (!true) = true by decide)] at h
        rw [h5, if_neg (show ¬ (!true) = true by decide)]
        exact ih h
      · rw [h4, if_pos (show (!false) = true by decide)] at h
        simp at h
    · rw [h1, if_neg (show ¬ false = true by decide)] at h ⊢
      rcases bool_tf (eqN t.n [77, 117, 116, 97, 116, 105, 111, 110]) with h2 | h2
      · rw [h2, if_pos rfl] at h ⊢
        rcases bool_tf (eqI t.k 1 && changeB l f) with h4 | h4
        · have h5 : (eqI t.k 1 && changeB (l ++ [zzI]) f) = true := by
            simp only [Bool.and_eq_true] at h4 ⊢
            exact ⟨h4.1, changeB_m hz f h4.2⟩
          rw [h4, if_neg (show ¬ (!true) = true by decide)] at h
          rw [h5, if_neg (show ¬ (!true) = true by decide)]
          exact ih h
        · rw [h4, if_pos (show (!false) = true by decide)] at h
          simp at h
      · rw [h2, if_neg (show ¬ false = true by decide)] at h ⊢
        split at h
        · simp at h
        · rename_i h3
          rw [if_neg h3]
          exact ih h
theorem rolesS_m (t : TDef) (h : (rolesS l t).1 = 0) : (rolesS (l ++ [zzI]) t).1 = 0 := by
  unfold rolesS at h ⊢
  split at h
  · rename_i h1; rw [if_pos h1]
  · rename_i h1; rw [if_neg h1]; exact rolesGo_m hz t _ h
theorem build_more (hb : (buildS l).1 = 0) : (buildS (l ++ [zzI])).1 = 0 := by
  obtain ⟨h1, h2, h3, h4⟩ := (build_iff l).1 hb
  obtain ⟨d1, d2⟩ := (decl_iff l []).1 h1
  have hint : lk (l ++ [zzI]) [73, 110, 116] = none := by
    rw [lk_ne (by decide)]
    unfold lk
    rw [List.find?_eq_none]
    intro t ht he
    have e : [73, 110, 116] = t.n := (eqN_iff _ _).1 he
    have := (d1 t ht).2.1
    rw [← e] at this
    revert this
    decide
  refine (build_iff _).2 ⟨(decl_iff _ []).2 ⟨fun t ht => ?_, ?_⟩, fun t ht => ?_, ?_, fun t ht => ?_⟩
  · rcases List.mem_append.1 ht with h | h
    · exact d1 t h
    · simp only [List.mem_cons, List.not_mem_nil, or_false] at h
      subst h
      exact ⟨rfl, by decide, by decide⟩
  · rw [List.map_append, List.nodup_append]
    refine ⟨d2, by simp, ?_⟩
    intro x hx y hy
    simp only [List.map_cons, List.map_nil, List.mem_cons, List.not_mem_nil, or_false] at hy
    subst hy
    intro e
    obtain ⟨t, ht, rfl⟩ := List.mem_map.1 hx
    unfold lk at hz
    rw [List.find?_eq_none] at hz
    exact hz t ht (by rw [eqN_iff]; exact e.symm)
  · rcases List.mem_append.1 ht with h | h
    · exact checkS_m hz t (h2 t h)
    · simp only [List.mem_cons, List.not_mem_nil, or_false] at h
      subst h
      unfold checkS
      rw [if_neg (by decide), fold_iff, fold_iff, fold_iff]
      refine ⟨by decide, by decide, ?_, rfl⟩
      show (fieldsGo (l ++ [zzI]) false [.mk [122, 122] [] (.base [73, 110, 116] false) false Val.none]).1 = 0
      rw [fieldsGo, fold_iff]
      refine ⟨?_, rfl⟩
      rw [fieldS]
      simp only [TRef.baseN, kindB, hint]
      rfl
  · rw [lk_ne (by decide)]
    exact h3
  · rcases List.mem_append.1 ht with h | h
    · exact rolesS_m hz t (h4 t h)
    · simp only [List.mem_cons, List.not_mem_nil, or_false] at h
      subst h
      rfl
end
theorem poss_more {l : List TDef} {t : TDef} (h : (lk l t.n).isSome = true) : possS (l ++ [zzI]) t.n = possS l t.n := by
  unfold possS
  rw [lk_some h]
  cases lk l t.n with
  | none => rfl
  | some u =>
    dsimp only
    rw [List.filter_append, show [zzI].filter (oneOf t.n) = [] by rfl, List.append_nil]
theorem build_there {l : List TDef} (h0 : (buildS l).1 = 0) (h : (lk l zzN).isSome = true) : (buildS (l ++ [zzI])).1 = 7 := by
  have hd := declGo_twice zzI l [] ((build_iff l).1 h0).1 h
  rw [buildS, hd]
  rfl
end Go.Cb.CodeA
/- What functions of the abstract machine answer. No conditions but those that each theorem names. -/
set_option maxRecDepth 20000
set_option linter.unusedSimpArgs false
set_option linter.unusedVariables false
namespace Go.Cb.CodeA
open Go Go.Cb
open Nat (reduceAdd reduceSub reduceLeDiff reduceEqDiff)
attribute [local congr] obind_congr gv_congr2 gv2_congr brT_congr seqK_congr blkK_congr m1_congr gm_congr

theorem typesL_s {l : List TDef} {so : Nat} {st : St} (h : Sch l so st) : EvQ tbl 16 [.ptr so 0] st (fun a st' => st' = st ∧ a = .list false (l.map TDef.row)) := by
  have hlen := h.len
  obtain ⟨w, mo, h1, h2⟩ := h.ob
  have hclone : EvQ tbl 28 [.list false (l.map TDef.row)] st (fun a st' => st' = st ∧ a = .list true (l.map TDef.row)) := by
    refine EvQ.of_ext (fn := a28) (r := (.list true (l.map TDef.row), st)) rfl rfl ?_ ⟨rfl, rfl⟩
    simp only [cloneX, rowsT, List.length_map, Bool.true_and]
    rw [if_pos (by simp; omega)]
  refine EvQ.body (fn := a16) rfl rfl rfl ?_
  simp +contextual -implicitDefEqProofs only [K16, SS, reduceAdd,reduceSub,reduceLeDiff,reduceEqDiff,reduceCtorEq, h1]
  refine WC.call hclone rfl rfl ?_
  rintro _ st ⟨rfl, rfl⟩
  simp +contextual -implicitDefEqProofs only [K16, SS, reduceAdd,reduceSub,reduceLeDiff,reduceEqDiff,reduceCtorEq]
  exact WC.ret ⟨_, _, rfl, rfl, rfl⟩
end Go.Cb.CodeA
set_option maxRecDepth 20000
set_option linter.unusedSimpArgs false
set_option linter.unusedVariables false
namespace Go.Cb.CodeA
open Go Go.Cb
open Nat (reduceAdd reduceSub reduceLeDiff reduceEqDiff)
attribute [local congr] obind_congr gv_congr2 gv2_congr brT_congr seqK_congr blkK_congr m1_congr gm_congr

/-- what building a text answers, exactly -/
def BuildX (s : List Nat) (st0 : St) (a : AV) (st' : St) : Prop := Gr st0 st' ∧ ∃ (p : AV) (n : List Nat) (e : Int), a = .tuple [p, .str n, .int .i64 e] ∧ p.weak = p ∧ p.stripB = p ∧ p.strip = p ∧
  ((typesS s = none ∧ e = 4) ∨ ∃ l, typesS s = some l ∧ l.length ≤ 3000 ∧ (∀ t ∈ l, t.OK) ∧ e = (buildS l).1 ∧ (e = 0 → ∃ so, p = .ptr so 0 ∧ Sch l so st'))
theorem buildX_s (s : List Nat) (st0 : St) : EvQ tbl 14 [.str s] st0 (BuildX s st0) := by
  refine EvQ.body (fn := a14) rfl rfl rfl ?_
  unfold BuildX
  simp +contextual -implicitDefEqProofs only [K14, SS, reduceAdd,reduceSub,reduceLeDiff,reduceEqDiff,reduceCtorEq]
  refine WC.call (types_q s st0) rfl rfl ?_
  rintro _ st ⟨hgT, l, at', e, rfl, hl, hok, hne, hnil, hT⟩
  simp +contextual -implicitDefEqProofs only [K14, SS, reduceAdd,reduceSub,reduceLeDiff,reduceEqDiff,reduceCtorEq]
  refine WC.br (fun he => ?_) (fun he => ?_)
  · have he : e ≠ 0 := fun h0 => by subst h0; cases he
    rw [if_neg he] at hT
    simp +contextual -implicitDefEqProofs only [K14, SS, reduceAdd,reduceSub,reduceLeDiff,reduceEqDiff,reduceCtorEq]
    exact WC.ret ⟨_, _, rfl, hgT, .nilp, [], 4, rfl, rfl, rfl, rfl, Or.inl ⟨hT, rfl⟩⟩
  have he : e = 0 := by rw [eqI_eq] at he; simpa using he
  rw [if_pos he] at hT
  simp +contextual -implicitDefEqProofs only [K14, SS, reduceAdd,reduceSub,reduceLeDiff,reduceEqDiff,reduceCtorEq]
  refine WC.call (build_s l (by omega) hok st) rfl rfl ?_
  rintro a st' ⟨hg, ⟨h0, so, hS, rfl⟩ | ⟨h0, rfl⟩⟩
  · simp +contextual -implicitDefEqProofs only [K14, SS, reduceAdd,reduceSub,reduceLeDiff,reduceEqDiff,reduceCtorEq]
    exact WC.ret ⟨_, _, rfl, hgT.trans hg, .ptr so 0, [], 0, rfl, rfl, rfl, rfl, Or.inr ⟨l, hT, hl, hok, h0.symm, fun _ => ⟨so, rfl, hS⟩⟩⟩
  · simp +contextual -implicitDefEqProofs only [K14, SS, reduceAdd,reduceSub,reduceLeDiff,reduceEqDiff,reduceCtorEq]
    exact WC.ret ⟨_, _, rfl, hgT.trans hg, .nilp, _, _, rfl, rfl, rfl, rfl, Or.inr ⟨l, hT, hl, hok, rfl, fun h => absurd h h0⟩⟩
theorem more_law {st1 st2 : St} (a1 : Ev tbl 8 [] [] (.bool true) st1) (a2 : Ev tbl 8 [] st1 (.bool true) st2) (s : List Nat) : EvQ tbl 5 [.str s] [] (fun a _ => a = .bool true) := by
  have e1 : EvQ tbl 8 [] [] (fun a st' => st' = st1 ∧ a = .bool true) := ⟨_, _, a1, rfl, rfl⟩
  have e2 : EvQ tbl 8 [] st1 (fun a st' => a = .bool true) := ⟨_, _, a2, rfl⟩
  refine EvQ.body (fn := a5) rfl rfl rfl ?_
  simp +contextual -implicitDefEqProofs only [K5, SS, reduceAdd,reduceSub,reduceLeDiff,reduceEqDiff,reduceCtorEq]
  refine WC.call e1 rfl rfl ?_
  rintro _ st ⟨rfl, rfl⟩
  have h18 : ltI 1800 (s.length : Int) = decide (1800 < s.length) := ltN 1800 _
  by_cases hs : 1800 < s.length
  · simp +contextual -implicitDefEqProofs only [K5, SS, reduceAdd,reduceSub,reduceLeDiff,reduceEqDiff,reduceCtorEq, h18, hs]
    refine WC.call e2 rfl rfl ?_
    rintro _ st rfl
    simp +contextual -implicitDefEqProofs only [K5, SS, reduceAdd,reduceSub,reduceLeDiff,reduceEqDiff,reduceCtorEq]
    exact WC.ret ⟨_, _, rfl, rfl⟩
  simp +contextual -implicitDefEqProofs only [K5, SS, reduceAdd,reduceSub,reduceLeDiff,reduceEqDiff,reduceCtorEq, h18, hs]
  refine WC.call (buildX_s s _) rfl rfl ?_
  rintro _ st ⟨hg, p, n, e, rfl, p1, p2, p3, hX⟩
  simp +contextual -implicitDefEqProofs only [K5, SS, reduceAdd,reduceSub,reduceLeDiff,reduceEqDiff,reduceCtorEq, p1, p2, p3]
  refine WC.br (fun he => ?_) (fun he => ?_)
  · simp +contextual -implicitDefEqProofs only [K5, SS, reduceAdd,reduceSub,reduceLeDiff,reduceEqDiff,reduceCtorEq]
    exact WC.ret ⟨_, _, rfl, rfl⟩
  have he : e = 0 := by rw [eqI_eq] at he; simpa using he
  obtain ⟨l, hT, hl, hok, hb, hS⟩ : ∃ l, typesS s = some l ∧ l.length ≤ 3000 ∧ (∀ t ∈ l, t.OK) ∧ e = (buildS l).1 ∧ (e = 0 → ∃ so, p = .ptr so 0 ∧ Sch l so st) := by
    rcases hX with ⟨_, h4⟩ | h
    · rw [he] at h4; cases h4
    · exact h
  obtain ⟨so, rfl, hSc⟩ := hS he
  clear hS hX p1 p2 p3
  have hb0 : (buildS l).1 = 0 := by rw [← hb]; exact he
  have hmore := types_more (by omega) hT
  have hlen : s.length + 21 ≤ 2 ^ 62 := by omega
  simp +contextual -implicitDefEqProofs only [K5, SS, reduceAdd,reduceSub,reduceLeDiff,reduceEqDiff,reduceCtorEq]
  refine WC.call (type_s hSc _) rfl rfl ?_
  rintro _ st ⟨rfl, rfl⟩
  rw [show ([90, 122, 57] : List Nat) = zzN from rfl]
  have hrow : ∀ o : Option TDef, typeA o = .tuple [.agg [.int .u8 (o.getD TDef.zero).k, .str (o.getD TDef.zero).n, .list false ((o.getD TDef.zero).fs.map FDef.row), .list false ((o.getD TDef.zero).ns.map strRow)], .bool o.isSome] := fun _ => rfl
  rw [hrow]
  simp +contextual -implicitDefEqProofs only [K5, SS, reduceAdd,reduceSub,reduceLeDiff,reduceEqDiff,reduceCtorEq, hlen, List.length_cons, List.length_nil]
  refine WC.call (buildX_s (s ++ 10 :: moreN) _) rfl rfl ?_
  rintro _ st' ⟨hg', q, n', e', rfl, q1, q2, q3, hX⟩
  obtain ⟨l2, hT2, hl2, hok2, hb2, hS2⟩ : ∃ l, typesS (s ++ 10 :: moreN) = some l ∧ l.length ≤ 3000 ∧ (∀ t ∈ l, t.OK) ∧ e' = (buildS l).1 ∧ (e' = 0 → ∃ so, q = .ptr so 0 ∧ Sch l so st') := by
    rcases hX with ⟨h4, _⟩ | h
    · rw [hmore] at h4; cases h4
    · exact h
  rw [hmore] at hT2
  obtain rfl := Option.some.inj hT2
  rcases bool_tf (lk l zzN).isSome with hz | hz
  · have h7 := build_there hb0 hz
    rw [← hb2] at h7
    subst h7
    simp +contextual -implicitDefEqProofs only [K5, SS, reduceAdd,reduceSub,reduceLeDiff,reduceEqDiff,reduceCtorEq, q1, q2, q3, hz, show eqI 7 7 = true from rfl]
    exact WC.ret ⟨_, _, rfl, rfl⟩
  have hzn : lk l zzN = none := by simpa using hz
  have h0 := build_more hzn hb0
  rw [← hb2] at h0
  subst h0
  obtain ⟨so', rfl, hSc'⟩ := hS2 rfl
  clear hS2 hX q1 q2 q3
  have hSc := hSc.gr hg'
  simp +contextual -implicitDefEqProofs only [K5, SS, reduceAdd,reduceSub,reduceLeDiff,reduceEqDiff,reduceCtorEq, hz, show eqI 0 0 = true from rfl]
  refine WC.call (typesL_s hSc) rfl rfl ?_
  rintro _ st ⟨rfl, rfl⟩
  simp +contextual -implicitDefEqProofs only [K5, SS, reduceAdd,reduceSub,reduceLeDiff,reduceEqDiff,reduceCtorEq]
  have hdecl := decl_lk l [] ((build_iff l).1 hb0).1
  rw [List.nil_append] at hdecl
  have hpl := poss_le (show l.length ≤ 3001 by omega) hok
  have hlen2 : (l ++ [zzI]).length = l.length + 1 := by simp
  have fin : ∀ (v10 v11 bx : AV) (i : Nat), ¬ i < l.length → WC (fun n => seqC (blkC 0 some) (exec (callF tbl n) n (a5s51.seq ACode.ret)) (.exit 0, [.str s, .bool false, .ptr so 0, .int .i64 e, bx, .bool false, .ptr so' 0, .int .i64 0, .list false (l.map TDef.row), .int .i64 i, v10, v11], st)) (fun o => ∃ r st', finK [ResK.v 1] (some o) = some (r, st') ∧ r = .bool true) := by
    intro v10 v11 bx i hil
    simp +contextual -implicitDefEqProofs only [K5, SS, reduceAdd,reduceSub,reduceLeDiff,reduceEqDiff,reduceCtorEq]
    refine WC.call (typesL_s hSc') rfl rfl ?_
    rintro _ st ⟨rfl, rfl⟩
    simp +contextual -implicitDefEqProofs only [K5, SS, reduceAdd,reduceSub,reduceLeDiff,reduceEqDiff,reduceCtorEq, List.length_map, hlen2, inc64 (show l.length + 1 < 2 ^ 63 by omega)]
    exact WC.ret ⟨_, _, rfl, rfl⟩
  generalize AV.box [AV.int IntKind.u8 ((lk l zzN).getD TDef.zero).k, AV.str ((lk l zzN).getD TDef.zero).n, AV.list false (List.map FDef.row ((lk l zzN).getD TDef.zero).fs), AV.list false (List.map strRow ((lk l zzN).getD TDef.zero).ns)] = bx
  refine WC.loopR (fun mm fr st' => st' = st ∧ ∃ (i : Nat) (v10 v11 : AV), i ≤ l.length ∧ mm = l.length - i ∧ fr = [.str s, .bool false, .ptr so 0, .int .i64 e, bx, .bool false, .ptr so' 0, .int .i64 0, .list false (l.map TDef.row), .int .i64 i, v10, v11]) (m := l.length) ⟨rfl, 0, _, _, Nat.zero_le _, rfl, rfl⟩ ?_
  rintro mm fr st' ⟨rfl, i, v10, v11, hi, rfl, rfl⟩
  by_cases hil : i < l.length
  rotate_left
  · have := fin v10 v11 bx i hil
    simp +contextual -implicitDefEqProofs only [K5, SS, reduceAdd,reduceSub,reduceLeDiff,reduceEqDiff,reduceCtorEq, List.length_map, hil]
    refine WC.leave ?_
    simp +contextual -implicitDefEqProofs only [K5, SS, reduceAdd,reduceSub,reduceLeDiff,reduceEqDiff,reduceCtorEq] at this ⊢
    exact this
  have e2 : (l.map TDef.row)[i]? = some (l[i]).row := by rw [List.getElem?_map, List.getElem?_eq_getElem hil]; rfl
  have hmem := List.getElem_mem hil
  revert e2 hmem
  generalize l[i] = t
  intro e2 hmem
  rw [TDef.row] at e2
  have hlt := hdecl t hmem
  have hsome : (lk l t.n).isSome = true := by rw [hlt]; rfl
  have hlt' : lk (l ++ [zzI]) t.n = some t := by rw [lk_some hsome, hlt]
  have hpm := poss_more hsome
  have hpn := hpl t.n
  have ht1 := type_s hSc' t.n
  rw [hlt'] at ht1
  have hp1 := poss_s hSc' t.n
  rw [hpm] at hp1
  simp +contextual -implicitDefEqProofs only [K5, SS, reduceAdd,reduceSub,reduceLeDiff,reduceEqDiff,reduceCtorEq, List.length_map, hil, e2]
  refine WC.call ht1 rfl rfl ?_
  rintro _ st ⟨rfl, rfl⟩
  have ek : (!eqI t.k t.k) = false := by rw [eqI_eq]; simp
  simp +contextual -implicitDefEqProofs only [K5, SS, reduceAdd,reduceSub,reduceLeDiff,reduceEqDiff,reduceCtorEq, e2, typeA, Option.getD_some, TDef.row, Option.isSome_some, ek]
  refine WC.call hp1 rfl rfl ?_
  rintro _ st ⟨rfl, rfl⟩
  simp +contextual -implicitDefEqProofs only [K5, SS, reduceAdd,reduceSub,reduceLeDiff,reduceEqDiff,reduceCtorEq, e2]
  refine WC.call (poss_s hSc t.n) rfl rfl ?_
  rintro _ st ⟨rfl, rfl⟩
  have ed : decide ((possS l t.n).length = (possS l t.n).length) = true := decide_eq_true rfl
  simp +contextual -implicitDefEqProofs only [K5, SS, reduceAdd,reduceSub,reduceLeDiff,reduceEqDiff,reduceCtorEq, e2, List.length_map, ed, Bool.not_true, inc64 (show i + 1 < 2 ^ 63 by omega)]
  exact WC.next (m' := l.length - (i + 1)) (by omega) ⟨rfl, i + 1, _, _, hil, rfl, rfl⟩
end Go.Cb.CodeA
