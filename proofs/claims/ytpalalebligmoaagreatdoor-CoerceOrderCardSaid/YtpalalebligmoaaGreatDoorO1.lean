/- What functions of the abstract machine answer. No conditions but those that each theorem names. -/
import Derived.Test.YtpalalebligmoaaGreatDoorS8
import Derived.Test.YtpalalebligmoaaGreatDoorP1
import Derived.Test.YtpalalebligmoaaGreatDoorMax
set_option maxRecDepth 20000
set_option linter.unusedSimpArgs false
set_option linter.unusedVariables false
namespace Go.Cb.CodeA
open Go Go.Cb
open Nat (reduceAdd reduceSub reduceLeDiff reduceEqDiff)
attribute [local congr] obind_congr gv_congr2 gv2_congr brT_congr seqK_congr blkK_congr m1_congr gm_congr
theorem again_q : EvQ tbl 9 [] T_aw (fun a st' => st' = T_bb ∧ a = .bool true) := ⟨_, _, ⟨100, m_ax⟩, rfl, rfl⟩
theorem order_law {v : Val} (hv : v.Fin) (hr : v.Rng) (k : Int) (hk : 0 ≤ k ∧ k < 256) : EvQ tbl 6 [.agg v.row, .int .u8 k] [] (fun a st' => a = .bool true) := by
  have w2 : wrapA .i64 k = k := wrap64 (by omega) (by omega)
  have hfine := fine_q hv T_aw
  rw [v.row_eta] at *
  refine EvQ.body (fn := a6) rfl rfl rfl ?_
  simp +contextual -implicitDefEqProofs only [K6, SS, reduceAdd,reduceSub,reduceLeDiff,reduceEqDiff,reduceCtorEq]
  refine WC.call awake_q rfl rfl ?_
  rintro _ _ ⟨rfl, rfl⟩
  simp +contextual -implicitDefEqProofs only [K6, SS, reduceAdd,reduceSub,reduceLeDiff,reduceEqDiff,reduceCtorEq, Bool.not_true]
  refine WC.call hfine rfl rfl ?_
  rintro _ _ ⟨rfl, b, rfl, hb⟩
  simp +contextual -implicitDefEqProofs only [K6, SS, reduceAdd,reduceSub,reduceLeDiff,reduceEqDiff,reduceCtorEq, Bool.not_true]
  refine WC.br (fun hc => ?_) (fun hc => ?_)
  · simp +contextual -implicitDefEqProofs only [K6, SS, reduceAdd,reduceSub,reduceLeDiff,reduceEqDiff,reduceCtorEq]
    refine WC.call again_q rfl rfl ?_
    rintro _ _ ⟨rfl, rfl⟩
    simp +contextual -implicitDefEqProofs only [K6, SS, reduceAdd,reduceSub,reduceLeDiff,reduceEqDiff,reduceCtorEq]
    exact WC.ret ⟨_, _, rfl, rfl⟩
  have hc : b = true ∧ eqI v.kind 6 = true ∧ eqI ((v.names.map strRow).length : Int) 0 = false := by
    cases b <;> cases h : eqI v.kind 6 <;> cases h' : eqI ((v.names.map strRow).length : Int) 0 <;> simp_all
  obtain ⟨hbt, hk6, hlen0⟩ := hc
  have hk6' : v.kind = 6 := by rw [eqI_eq] at hk6; simpa using hk6
  have hok : v.Ok := ⟨(hb hbt).1, (hb hbt).2, hr⟩
  have hkl := hok.ev hk6'
  have hlen := hok.len
  have hvv : v = .mk 6 v.num v.text v.names v.vals := by rw [← hk6']; cases v; rfl
  clear hfine hb hbt
  revert hvv hkl hlen hlen0
  generalize v.names = K
  generalize v.vals = L
  intro hlen0 hlen hkl hvv
  simp +contextual -implicitDefEqProofs only [K6, SS, reduceAdd,reduceSub,reduceLeDiff,reduceEqDiff,reduceCtorEq]
  refine WC.loopR (fun mm fr st' => st' = T_aw ∧ ∃ (i : Nat) (v5 : AV), i ≤ K.length ∧ mm = K.length - i ∧ (K.take i).Nodup ∧ fr = [.agg [.int .u8 v.kind, .int .i64 v.num, .str v.text, .list false (K.map strRow), .list false (L.map Val.row)], .int .u8 k, .box [.int .u8 v.kind, .int .i64 v.num, .str v.text, .list false (K.map strRow), .list false (L.map Val.row)], .bool false, .int .i64 i, v5, .undef, .undef, .undef, .undef, .undef, .undef, .undef, .undef]) (m := K.length) ⟨rfl, 0, _, Nat.zero_le _, rfl, by simp, rfl⟩ ?_
  rintro mm fr st' ⟨rfl, i, v5, hi, rfl, hnd, rfl⟩
  simp +contextual -implicitDefEqProofs only [K6, SS, reduceAdd,reduceSub,reduceLeDiff,reduceEqDiff,reduceCtorEq, ltN, List.length_map]
  by_cases hil : i < K.length
  · simp +contextual -implicitDefEqProofs only [K6, SS, reduceAdd,reduceSub,reduceLeDiff,reduceEqDiff,reduceCtorEq, hil]
    refine WC.loopR (fun mm fr st' => st' = T_aw ∧ ∃ (j : Nat), j ≤ i ∧ mm = i - j ∧ K[i] ∉ K.take j ∧ fr = [.agg [.int .u8 v.kind, .int .i64 v.num, .str v.text, .list false (K.map strRow), .list false (L.map Val.row)], .int .u8 k, .box [.int .u8 v.kind, .int .i64 v.num, .str v.text, .list false (K.map strRow), .list false (L.map Val.row)], .bool false, .int .i64 i, .int .i64 j, .undef, .undef, .undef, .undef, .undef, .undef, .undef, .undef]) (m := i) ⟨rfl, 0, Nat.zero_le _, rfl, by simp, rfl⟩ ?_
    rintro mm fr st' ⟨rfl, j, hj, rfl, hni, rfl⟩
    simp +contextual -implicitDefEqProofs only [K6, SS, reduceAdd,reduceSub,reduceLeDiff,reduceEqDiff,reduceCtorEq, ltN]
    by_cases hjl : j < i
    · have e1 := str_at hil
      have e2 := str_at (show j < K.length by omega)
      have e3 : K[i] ∉ K.take (j + 1) ↔ K[i] ∉ K.take j ∧ K[i] ≠ K[j]'(by omega) := by
        rw [List.take_add_one, List.getElem?_eq_getElem (show j < K.length by omega)]
        simp only [Option.toList, List.mem_append, List.mem_singleton, not_or, ne_eq]
      simp +contextual -implicitDefEqProofs only [K6, SS, reduceAdd,reduceSub,reduceLeDiff,reduceEqDiff,reduceCtorEq, hjl, e1, e2]
      rcases bool_tf (eqN K[i] (K[j]'(by omega))) with hq | hq
      · simp +contextual -implicitDefEqProofs only [K6, SS, reduceAdd,reduceSub,reduceLeDiff,reduceEqDiff,reduceCtorEq, hq]
        refine WC.leaveR ?_
        simp +contextual -implicitDefEqProofs only [K6, SS, reduceAdd,reduceSub,reduceLeDiff,reduceEqDiff,reduceCtorEq]
        refine WC.leaveR ?_
        simp +contextual -implicitDefEqProofs only [K6, SS, reduceAdd,reduceSub,reduceLeDiff,reduceEqDiff,reduceCtorEq]
        exact WC.ret ⟨_, _, rfl, rfl⟩
      · simp +contextual -implicitDefEqProofs only [K6, SS, reduceAdd,reduceSub,reduceLeDiff,reduceEqDiff,reduceCtorEq, hq, inc64 (show j + 1 < 2 ^ 63 by omega)]
        exact WC.next (m' := i - (j + 1)) (by omega) ⟨rfl, j + 1, hjl, rfl, e3.2 ⟨hni, (eqN_false _ _).1 hq⟩, rfl⟩
    · have hji : j = i := by omega
      subst hji
      simp +contextual -implicitDefEqProofs only [K6, SS, reduceAdd,reduceSub,reduceLeDiff,reduceEqDiff,reduceCtorEq, hjl]
      refine WC.leave ?_
      simp +contextual -implicitDefEqProofs only [K6, SS, reduceAdd,reduceSub,reduceLeDiff,reduceEqDiff,reduceCtorEq, inc64 (show j + 1 < 2 ^ 63 by omega)]
      refine WC.next (m' := K.length - (j + 1)) (by omega) ⟨rfl, j + 1, _, hil, rfl, ?_, rfl⟩
      rw [List.take_add_one, List.getElem?_eq_getElem hil]
      simp only [Option.toList]
      exact List.nodup_append.2 ⟨hnd, by simp, by intro a ha b hb; simp at hb; subst hb; exact fun e => hni (e ▸ ha)⟩
  · rw [List.take_of_length_le (by omega)] at hnd
    have hne : ¬ ((K.length : Int) = 0) := by intro e; rw [List.length_map, e] at hlen0; exact absurd hlen0 (by decide)
    obtain ⟨c, hcl, hcc⟩ : ∃ c : Nat, c < K.length ∧ k.tmod (K.length : Int) = (c : Int) := ⟨(k.tmod (K.length : Int)).toNat, by have := Int.tmod_lt_of_pos k (show (0 : Int) < K.length by omega); have := Int.tmod_nonneg (K.length : Int) hk.1; omega, by have := Int.tmod_nonneg (K.length : Int) hk.1; omega⟩
    simp +contextual -implicitDefEqProofs only [K6, SS, reduceAdd,reduceSub,reduceLeDiff,reduceEqDiff,reduceCtorEq, hil]
    refine WC.leave ?_
    have hc1 : c ≤ K.length := by omega
    have hc2 : c ≤ L.length := by omega
    have t1 : List.take K.length (K.map strRow) = K.map strRow := List.take_of_length_le (by rw [List.length_map]; exact Nat.le_refl _)
    have t2 : List.take L.length (L.map Val.row) = L.map Val.row := List.take_of_length_le (by rw [List.length_map]; exact Nat.le_refl _)
    have d1 : List.drop c (K.map strRow) = (K.drop c).map strRow := List.map_drop.symm
    have d2 : List.drop c (L.map Val.row) = (L.drop c).map Val.row := List.map_drop.symm
    have d3 : List.take c (K.map strRow) = (K.take c).map strRow := List.map_take.symm
    have d4 : List.take c (L.map Val.row) = (L.take c).map Val.row := List.map_take.symm
    have r0 : rowsOk 1 [] = true := rfl
    have r5 : rowsOk 5 [] = true := rfl
    have m1 : Nat.min c K.length = c := Nat.min_eq_left hc1
    have m2 : Nat.min c L.length = c := Nat.min_eq_left hc2
    simp +contextual -implicitDefEqProofs only [K6, SS, reduceAdd,reduceSub,reduceLeDiff,reduceEqDiff,reduceCtorEq, w2, List.length_map, hne, hcc, Option.map_some, rowsS, rows_ok, hc1, hc2, t1, t2, d1, d2, d3, d4, r0, r5, List.length_nil, List.length_drop, List.length_take, List.nil_append, List.length_append, show (0 + (K.length - c)) * 16 ≤ 2 ^ 47 by omega, show (0 + (L.length - c)) * 80 ≤ 2 ^ 47 by omega, show (K.length - c + min c K.length) * 16 ≤ 2 ^ 47 by omega, show (L.length - c + min c L.length) * 80 ≤ 2 ^ 47 by omega, show (K.length - c) * 16 ≤ 2 ^ 47 by omega, show (L.length - c) * 80 ≤ 2 ^ 47 by omega]
    refine WC.call both_q rfl rfl ?_
    rintro _ _ ⟨rfl, rfl⟩
    have hvA : v = .mk 6 v.num v.text (K.take c ++ K.drop c) (L.take c ++ L.drop c) := by rw [List.take_append_drop, List.take_append_drop]; exact hvv
    have hu : (Val.mk 6 0 [] (K.drop c ++ K.take c) (L.drop c ++ L.take c)).Ok := by
      refine .of (by simp; omega) (by simp; omega) (fun _ => by simp; omega) (by decide) (fun x hx => hok.sub x ?_)
      rw [hvv]
      show x ∈ L
      rcases List.mem_append.1 hx with h | h
      · exact List.mem_of_mem_drop h
      · exact List.mem_of_mem_take h
    obtain ⟨o1, o2⟩ := order_pure (m := v.num) (s := v.text) (A := K.take c) (B := K.drop c) (LA := L.take c) (LB := L.drop c) (by simp; omega) (by simp; omega) (by rw [List.take_append_drop]; exact hnd)
    rw [← hvA] at o1 o2
    have hq1 := input_q (.one sI false) sch_bb hok
    have hq2 := fun st (h : Sch st) => input_q (.one sI false) h hu
    have hv1 := valF_ok true (.one sI false) hok
    have hs := same_q hv1.fin
    rw [show v.row = [.int .u8 v.kind, .int .i64 v.num, .str v.text, .list false (K.map strRow), .list false (L.map Val.row)] by rw [hvv]; exact Val.row_eq _ _ _ _ _] at hq1
    rw [Val.row_eq] at hq2
    simp only [List.map_append] at hq2
    rw [o1] at hq2
    rw [show (Ty.one sI false).row = [.str [73], .list false [], .bool false] from rfl] at hq1 hq2
    revert hq1 hq2 hs o2
    generalize (valF true (.one sI false) v).1 = x
    generalize (valF true (.one sI false) v).2.2 = e
    generalize (valF true (.one sI false) (.mk 6 0 [] (K.drop c ++ K.take c) (L.drop c ++ L.take c))).2.2 = f
    intro o2 hq1 hs hq2
    rw [x.row_eta] at hq1 hq2 hs
    simp +contextual -implicitDefEqProofs only [K6, SS, reduceAdd,reduceSub,reduceLeDiff,reduceEqDiff,reduceCtorEq]
    refine WC.call hq1 rfl rfl ?_
    rintro _ _ ⟨hS, rfl⟩
    simp +contextual -implicitDefEqProofs only [K6, SS, reduceAdd,reduceSub,reduceLeDiff,reduceEqDiff,reduceCtorEq]
    refine WC.call (hq2 _ hS) rfl rfl ?_
    rintro _ _ ⟨hS, rfl⟩
    have hef : eqI e 0 = eqI f 0 := by
      rw [Bool.eq_iff_iff, eqI_zero, eqI_zero]
      exact o2.symm
    have hbb : (eqI f 0 == eqI f 0) = true := by simp
    simp +contextual -implicitDefEqProofs only [K6, SS, reduceAdd,reduceSub,reduceLeDiff,reduceEqDiff,reduceCtorEq, hef, hbb]
    refine WC.call (hs _) rfl rfl ?_
    rintro _ _ ⟨rfl, rfl⟩
    simp +contextual -implicitDefEqProofs only [K6, SS, reduceAdd,reduceSub,reduceLeDiff,reduceEqDiff,reduceCtorEq, hef, hbb]
    exact WC.ret ⟨_, _, rfl, rfl⟩
end Go.Cb.CodeA
