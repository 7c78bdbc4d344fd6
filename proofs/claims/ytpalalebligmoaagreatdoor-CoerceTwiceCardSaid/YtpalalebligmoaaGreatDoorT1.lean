/- What functions of the abstract machine answer. No conditions but those that each theorem names. -/
import Derived.Test.YtpalalebligmoaaGreatDoorT0
import Derived.Test.YtpalalebligmoaaGreatDoorS8
import Derived.Test.YtpalalebligmoaaGreatDoorMax
set_option maxRecDepth 20000
set_option linter.unusedSimpArgs false
set_option linter.unusedVariables false
namespace Go.Cb.CodeA
open Go Go.Cb
open Nat (reduceAdd reduceSub reduceLeDiff reduceEqDiff)
attribute [local congr] obind_congr gv_congr2 gv2_congr brT_congr seqK_congr blkK_congr m1_congr gm_congr
theorem again2_q : EvQ tbl 9 [] T_aw (fun a st' => st' = T_bb ∧ a = .bool true) := ⟨_, _, ⟨100, m_ax⟩, rfl, rfl⟩
theorem twice_law {t : Tr} (ht : t.Fin) {v : Val} (hv : v.Fin) (hr : v.Rng) : EvQ tbl 3 [.agg t.row, .agg v.row] [] (fun a st' => a = .bool true) := by
  have hfine := fine_q hv T_aw
  have hsh := shallow_q ht 5 T_aw (by decide) (by decide)
  have hv0 := v.row_eta
  obtain ⟨n, xs, b, e1⟩ := t.row_cells
  rw [v.row_eta] at hfine ⊢
  rw [e1] at hsh ⊢
  refine EvQ.body (fn := a3) rfl rfl rfl ?_
  simp +contextual -implicitDefEqProofs only [K3, SS, reduceAdd,reduceSub,reduceLeDiff,reduceEqDiff,reduceCtorEq]
  refine WC.call awake_q rfl rfl ?_
  rintro _ _ ⟨rfl, rfl⟩
  simp +contextual -implicitDefEqProofs only [K3, SS, reduceAdd,reduceSub,reduceLeDiff,reduceEqDiff,reduceCtorEq, Bool.not_true]
  refine WC.call hsh rfl rfl ?_
  rintro _ _ ⟨rfl, b1, rfl, hb1⟩
  cases b1 with
  | false =>
    simp +contextual -implicitDefEqProofs only [K3, SS, reduceAdd,reduceSub,reduceLeDiff,reduceEqDiff,reduceCtorEq, Bool.not_false, Bool.true_or, Bool.false_or]
    refine WC.call again2_q rfl rfl ?_
    rintro _ _ ⟨rfl, rfl⟩
    simp +contextual -implicitDefEqProofs only [K3, SS, reduceAdd,reduceSub,reduceLeDiff,reduceEqDiff,reduceCtorEq]
    exact WC.ret ⟨_, _, rfl, rfl⟩
  | true =>
  obtain ⟨T, hT⟩ := hb1 rfl
  rw [T.row_eta] at hT
  simp only [List.cons.injEq, AV.str.injEq, AV.list.injEq, AV.bool.injEq, and_true, true_and] at hT
  obtain ⟨rfl, rfl, rfl⟩ := hT
  simp +contextual -implicitDefEqProofs only [K3, SS, reduceAdd,reduceSub,reduceLeDiff,reduceEqDiff,reduceCtorEq, Bool.not_true, Bool.false_or]
  refine WC.call hfine rfl rfl ?_
  rintro _ _ ⟨rfl, b2, rfl, hb2⟩
  cases b2 with
  | false =>
    simp +contextual -implicitDefEqProofs only [K3, SS, reduceAdd,reduceSub,reduceLeDiff,reduceEqDiff,reduceCtorEq, Bool.not_false]
    refine WC.call again2_q rfl rfl ?_
    rintro _ _ ⟨rfl, rfl⟩
    simp +contextual -implicitDefEqProofs only [K3, SS, reduceAdd,reduceSub,reduceLeDiff,reduceEqDiff,reduceCtorEq]
    exact WC.ret ⟨_, _, rfl, rfl⟩
  | true =>
  have hok : v.Ok := ⟨(hb2 rfl).1, (hb2 rfl).2, hr⟩
  simp +contextual -implicitDefEqProofs only [K3, SS, reduceAdd,reduceSub,reduceLeDiff,reduceEqDiff,reduceCtorEq, Bool.not_true]
  refine WC.call both_q rfl rfl ?_
  rintro _ _ ⟨rfl, rfl⟩
  have hq := input_q T sch_bb hok
  have hgood := twice_pure T hok
  have hxo := valF_ok true T hok
  rw [hv0, T.row_eta] at hq
  revert hq hgood hxo
  generalize valF true T v = r
  obtain ⟨x, ok, e⟩ := r
  intro hq hgood hxo
  dsimp only at hq hgood hxo
  have hq2 := fun st (h : Sch st) => input_q T h hxo
  have hfit := fun st (h : Sch st) => fit_q T st h x hxo
  have hs := same_q hxo.fin
  have hs0 := same_q Val.Ok.none.fin
  rw [Val.none_row] at hs0
  rw [x.row_eta] at hq
  rw [x.row_eta, T.row_eta] at hq2 hfit
  rw [x.row_eta] at hs
  simp +contextual -implicitDefEqProofs only [K3, SS, reduceAdd,reduceSub,reduceLeDiff,reduceEqDiff,reduceCtorEq]
  refine WC.call hq rfl rfl ?_
  rintro _ _ ⟨hS, rfl⟩
  rcases hgood with ⟨h1, h2, h3, h4⟩ | ⟨h1, h2⟩
  · dsimp only at h1 h2 h3 h4
    subst h1
    rw [h3] at hq2
    dsimp only at hq2
    rw [x.row_eta] at hq2
    rw [h4] at hfit
    simp +contextual -implicitDefEqProofs only [K3, SS, reduceAdd,reduceSub,reduceLeDiff,reduceEqDiff,reduceCtorEq, show eqI 0 0 = true from rfl, Bool.not_true]
    refine WC.call (hq2 _ hS) rfl rfl ?_
    rintro _ _ ⟨hS, rfl⟩
    simp +contextual -implicitDefEqProofs only [K3, SS, reduceAdd,reduceSub,reduceLeDiff,reduceEqDiff,reduceCtorEq, show eqI 0 0 = true from rfl]
    refine WC.call (hs _) rfl rfl ?_
    rintro _ _ ⟨rfl, rfl⟩
    simp +contextual -implicitDefEqProofs only [K3, SS, reduceAdd,reduceSub,reduceLeDiff,reduceEqDiff,reduceCtorEq]
    refine WC.call (hfit _ hS) rfl rfl ?_
    rintro _ _ ⟨hS, rfl⟩
    simp +contextual -implicitDefEqProofs only [K3, SS, reduceAdd,reduceSub,reduceLeDiff,reduceEqDiff,reduceCtorEq]
    exact WC.ret ⟨_, _, rfl, rfl⟩
  · dsimp only at h1 h2
    subst h2
    have he : eqI e 0 = false := (eqI_ne _ _).2 h1
    simp +contextual -implicitDefEqProofs only [K3, SS, reduceAdd,reduceSub,reduceLeDiff,reduceEqDiff,reduceCtorEq, he, Bool.not_false]
    refine WC.call (hs0 _) rfl rfl ?_
    rintro _ _ ⟨rfl, rfl⟩
    simp +contextual -implicitDefEqProofs only [K3, SS, reduceAdd,reduceSub,reduceLeDiff,reduceEqDiff,reduceCtorEq]
    exact WC.ret ⟨_, _, rfl, rfl⟩
end Go.Cb.CodeA
