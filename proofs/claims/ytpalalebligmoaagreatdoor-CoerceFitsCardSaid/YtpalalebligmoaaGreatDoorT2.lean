/- What functions of the abstract machine answer. No conditions but those that each theorem names. -/
import Derived.Test.YtpalalebligmoaaGreatDoorT1
import Derived.Test.YtpalalebligmoaaGreatDoorP5
set_option maxRecDepth 20000
set_option linter.unusedSimpArgs false
set_option linter.unusedVariables false
namespace Go.Cb.CodeA
open Go Go.Cb
open Nat (reduceAdd reduceSub reduceLeDiff reduceEqDiff)
attribute [local congr] obind_congr gv_congr2 gv2_congr brT_congr seqK_congr blkK_congr m1_congr gm_congr
theorem fits_law {t : Tr} (ht : t.Fin) {v : Val} (hv : v.Fin) (hr : v.Rng) : EvQ tbl 5 [.agg t.row, .agg v.row] [] (fun a st' => a = .bool true) := by
  have hfine := fine_q hv T_aw
  have hholds := holds_q hv T_aw
  have hsh := shallow_q ht 10 T_aw (by decide) (by decide)
  have hv0 := v.row_eta
  obtain ⟨n, xs, b, e1⟩ := t.row_cells
  rw [v.row_eta] at hfine hholds ⊢
  rw [e1] at hsh ⊢
  refine EvQ.body (fn := a5) rfl rfl rfl ?_
  simp +contextual -implicitDefEqProofs only [K5, SS, reduceAdd,reduceSub,reduceLeDiff,reduceEqDiff,reduceCtorEq]
  refine WC.call awake_q rfl rfl ?_
  rintro _ _ ⟨rfl, rfl⟩
  simp +contextual -implicitDefEqProofs only [K5, SS, reduceAdd,reduceSub,reduceLeDiff,reduceEqDiff,reduceCtorEq, Bool.not_true]
  refine WC.call hsh rfl rfl ?_
  rintro _ _ ⟨rfl, b1, rfl, hb1⟩
  cases b1 with
  | false =>
    simp +contextual -implicitDefEqProofs only [K5, SS, reduceAdd,reduceSub,reduceLeDiff,reduceEqDiff,reduceCtorEq, Bool.not_false, Bool.true_or, Bool.false_or]
    refine WC.call again2_q rfl rfl ?_
    rintro _ _ ⟨rfl, rfl⟩
    simp +contextual -implicitDefEqProofs only [K5, SS, reduceAdd,reduceSub,reduceLeDiff,reduceEqDiff,reduceCtorEq]
    exact WC.ret ⟨_, _, rfl, rfl⟩
  | true =>
  obtain ⟨T, hT⟩ := hb1 rfl
  rw [T.row_eta] at hT
  simp only [List.cons.injEq, AV.str.injEq, AV.list.injEq, AV.bool.injEq, and_true, true_and] at hT
  obtain ⟨rfl, rfl, rfl⟩ := hT
  simp +contextual -implicitDefEqProofs only [K5, SS, reduceAdd,reduceSub,reduceLeDiff,reduceEqDiff,reduceCtorEq, Bool.not_true, Bool.false_or]
  refine WC.call hfine rfl rfl ?_
  rintro _ _ ⟨rfl, b2, rfl, hb2⟩
  cases b2 with
  | false =>
    simp +contextual -implicitDefEqProofs only [K5, SS, reduceAdd,reduceSub,reduceLeDiff,reduceEqDiff,reduceCtorEq, Bool.not_false]
    refine WC.call again2_q rfl rfl ?_
    rintro _ _ ⟨rfl, rfl⟩
    simp +contextual -implicitDefEqProofs only [K5, SS, reduceAdd,reduceSub,reduceLeDiff,reduceEqDiff,reduceCtorEq]
    exact WC.ret ⟨_, _, rfl, rfl⟩
  | true =>
  have hok : v.Ok := ⟨(hb2 rfl).1, (hb2 rfl).2, hr⟩
  simp +contextual -implicitDefEqProofs only [K5, SS, reduceAdd,reduceSub,reduceLeDiff,reduceEqDiff,reduceCtorEq, Bool.not_true, Bool.false_or]
  refine WC.call hholds rfl rfl ?_
  rintro _ _ ⟨rfl, b3, rfl, hb3⟩
  cases b3 with
  | true =>
    simp +contextual -implicitDefEqProofs only [K5, SS, reduceAdd,reduceSub,reduceLeDiff,reduceEqDiff,reduceCtorEq]
    refine WC.call again2_q rfl rfl ?_
    rintro _ _ ⟨rfl, rfl⟩
    simp +contextual -implicitDefEqProofs only [K5, SS, reduceAdd,reduceSub,reduceLeDiff,reduceEqDiff,reduceCtorEq]
    exact WC.ret ⟨_, _, rfl, rfl⟩
  | false =>
  have hp := hb3 rfl
  simp +contextual -implicitDefEqProofs only [K5, SS, reduceAdd,reduceSub,reduceLeDiff,reduceEqDiff,reduceCtorEq]
  refine WC.call both_q rfl rfl ?_
  rintro _ _ ⟨rfl, rfl⟩
  have hq := literal_q T sch_bb hok
  have hfit := fun st (h : Sch st) => fit_q T st h v hok
  obtain ⟨f1, f2⟩ := fits_pure T hok hp
  rw [hv0, T.row_eta, Val.none_row] at hq
  rw [hv0, T.row_eta] at hfit
  obtain ⟨r, hr⟩ : ∃ r, valF false T v = r := ⟨_, rfl⟩
  rw [hr] at hq f1 f2
  obtain ⟨x, ok, e⟩ := r
  have f1 : eqI e 0 = fitG BF T v := f1
  have f2 : ok = fitG BF T v := f2
  rw [← f2] at f1 hfit
  rw [ansR, x.row_eta] at hq
  dsimp only at hq
  simp +contextual -implicitDefEqProofs only [K5, SS, reduceAdd,reduceSub,reduceLeDiff,reduceEqDiff,reduceCtorEq]
  refine WC.call hq rfl rfl ?_
  rintro _ _ ⟨hS, rfl⟩
  simp +contextual -implicitDefEqProofs only [K5, SS, reduceAdd,reduceSub,reduceLeDiff,reduceEqDiff,reduceCtorEq]
  refine WC.call (hfit _ hS) rfl rfl ?_
  rintro _ _ ⟨hS, rfl⟩
  have hbb : (ok == ok) = true := by simp
  simp +contextual -implicitDefEqProofs only [K5, SS, reduceAdd,reduceSub,reduceLeDiff,reduceEqDiff,reduceCtorEq, f1, hbb]
  exact WC.ret ⟨_, _, rfl, rfl⟩
end Go.Cb.CodeA
