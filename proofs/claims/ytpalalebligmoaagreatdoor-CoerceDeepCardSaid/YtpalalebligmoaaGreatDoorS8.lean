/- What functions of the abstract machine answer. No conditions but those that each theorem names. -/
import Derived.Test.YtpalalebligmoaaGreatDoorS7
import Derived.Test.YtpalalebligmoaaGreatDoorMaw
import Derived.Test.YtpalalebligmoaaGreatDoorMbb
set_option maxRecDepth 20000
set_option linter.unusedSimpArgs false
set_option linter.unusedVariables false
namespace Go.Cb.CodeA
open Go Go.Cb
open Nat (reduceAdd reduceSub reduceLeDiff reduceEqDiff)
attribute [local congr] obind_congr gv_congr2 gv2_congr brT_congr seqK_congr blkK_congr m1_congr gm_congr
theorem sch_bb : Sch T_bb := ⟨rfl, rfl, rfl⟩
theorem awake_q : EvQ tbl 9 [] [] (fun a st' => st' = T_aw ∧ a = .bool true) := ⟨_, _, ⟨100, m_aw⟩, rfl, rfl⟩
theorem both_q : EvQ tbl 12 A_bb T_aw (fun a st' => st' = T_bb ∧ a = .tuple [.ptr 14 0, .ptr 23 0, .bool true]) := ⟨_, _, ⟨100, m_bb⟩, rfl, rfl⟩
def tyN : Nat → Ty
  | 0 => .one sInt false
  | i + 1 => .lst [] (tyN i) false
def vlN (n : Int) : Nat → Val
  | 0 => .mk 1 n [] [] []
  | i + 1 => .mk 5 0 [] [] [vlN n i]
theorem deep_val (n : Int) (h : wrapA .i64 (wrapA .i32 n) = n) : ∀ i, valF true (tyN i) (.mk 1 n [] [] []) = (vlN n i, true, 0)
  | 0 => by
    show preF true false (.mk 1 n [] [] []) (NF true sInt (.mk 1 n [] [] [])) = _
    have e : (eqN sInt [73, 110, 116] && eqI (Val.mk 1 n [] [] []).kind 1 && eqI (Val.mk 1 n [] [] []).num (wrapA .i64 (wrapA .i32 (Val.mk 1 n [] [] []).num))) = true := by
      show (true && true && eqI n (wrapA .i64 (wrapA .i32 n))) = true
      rw [h, eqI_refl]
      rfl
    rw [NF, namedF, if_pos e]
    rfl
  | i + 1 => by
    have ih := deep_val n h i
    show preF true false (.mk 1 n [] [] []) (listF (valueF true (NF true) (tyN i)) (tyN i).bang (.mk 1 n [] [] [])) = _
    have ih : valueF true (NF true) (tyN i) (.mk 1 n [] [] []) = (vlN n i, true, 0) := ih
    have e : listF (valueF true (NF true) (tyN i)) (tyN i).bang (.mk 1 n [] [] []) = (vlN n (i + 1), true, 0) := by
      show listG _ _ [.mk 1 n [] [] []] [] = _
      rw [listG, ih]
      rfl
    rw [e]
    rfl
theorem tyN_row (i : Nat) : (tyN i).row = [.str (tyN i).name, .list false (tyN i).of, .bool (tyN i).bang] := (tyN i).row_eta
theorem tyN_succ (i : Nat) : (tyN (i + 1)).name = [] ∧ (tyN (i + 1)).of = [[.str (tyN i).name, .list false (tyN i).of, .bool (tyN i).bang]] ∧ (tyN (i + 1)).bang = false := ⟨rfl, by rw [← tyN_row]; rfl, rfl⟩
theorem vlN_ok {n : Int} (h : -9223372036854775808 ≤ n ∧ n ≤ 9223372036854775807) : ∀ i, (vlN n i).Ok
  | 0 => .of (by decide) (by decide) (by intro e; cases e) h (by simp)
  | i + 1 => .of (by decide) (by simp) (by intro e; cases e) (by decide) (by intro v hv; simp at hv; subst hv; exact vlN_ok h i)
theorem wrap32 {n : Int} (h1 : -2147483648 ≤ n) (h2 : n < 2147483648) : wrapA .i32 n = n := by
  rw [wrapA_eq]
  simp only [IntKind.wrap, IntKind.signed, IntKind.bits, Bool.true_and]
  split
  · rename_i h; have h := of_decide_eq_true h; omega
  · rename_i h; have h : ¬ (n % 2 ^ 32 ≥ 2 ^ (32 - 1)) := fun x => h (decide_eq_true x); omega
theorem deep_law (n : Int) (h : -2147483648 ≤ n ∧ n < 2147483648) (k : Int) (hk : 0 ≤ k ∧ k < 256) : EvQ tbl 7 [.int .i32 n, .int .u8 k] [] (fun a st' => a = .bool true) := by
  have w1 : wrapA .i64 n = n := wrap64 (by omega) (by omega)
  have w2 : wrapA .i64 k = k := wrap64 (by omega) (by omega)
  have h2 : wrapA .i64 (wrapA .i32 n) = n := by rw [wrap32 h.1 h.2, w1]
  refine EvQ.body (fn := a7) rfl rfl rfl ?_
  simp +contextual -implicitDefEqProofs only [K7, SS, reduceAdd,reduceSub,reduceLeDiff,reduceEqDiff,reduceCtorEq]
  refine WC.call awake_q rfl rfl ?_
  rintro _ _ ⟨rfl, rfl⟩
  simp +contextual -implicitDefEqProofs only [K7, SS, reduceAdd,reduceSub,reduceLeDiff,reduceEqDiff,reduceCtorEq, Bool.not_true]
  refine WC.call both_q rfl rfl ?_
  rintro _ _ ⟨rfl, rfl⟩
  simp +contextual -implicitDefEqProofs only [K7, SS, reduceAdd,reduceSub,reduceLeDiff,reduceEqDiff,reduceCtorEq, w1, w2]
  obtain ⟨K, hKl, hK⟩ : ∃ K : Nat, K < 15 ∧ k.tmod 15 = (K : Int) := ⟨(k.tmod 15).toNat, by have := Int.tmod_lt_of_pos k (show (0 : Int) < 15 by decide); have := Int.tmod_nonneg 15 hk.1; omega, by have := Int.tmod_nonneg 15 hk.1; omega⟩
  have h15 : ¬ ((15 : Int) = 0) := by decide
  simp +contextual -implicitDefEqProofs only [K7, SS, reduceAdd,reduceSub,reduceLeDiff,reduceEqDiff,reduceCtorEq, h15, hK, Option.map_some]
  refine WC.loopR (fun mm fr st' => st' = T_bb ∧ ∃ (i : Nat) (w : Bool), i ≤ K ∧ mm = K - i ∧ fr = [.int .i32 n, .int .u8 k, .bool false, .ptr 14 0, .bool true, .box [.str (tyN i).name, .list w (tyN i).of, .bool (tyN i).bang], .int .i64 K, .int .i64 i, .undef, .undef, .undef]) (m := K) ⟨rfl, 0, true, Nat.zero_le _, rfl, rfl⟩ ?_
  rintro mm fr st' ⟨rfl, i, w, hi, rfl, rfl⟩
  simp +contextual -implicitDefEqProofs only [K7, SS, reduceAdd,reduceSub,reduceLeDiff,reduceEqDiff,reduceCtorEq, ltN]
  by_cases hil : i < K
  · simp +contextual -implicitDefEqProofs only [K7, SS, reduceAdd,reduceSub,reduceLeDiff,reduceEqDiff,reduceCtorEq, hil, inc64 (show i + 1 < 2 ^ 63 by omega)]
    obtain ⟨t1, t2, t3⟩ := tyN_succ i
    refine WC.next (m' := K - (i + 1)) (by omega) ⟨rfl, i + 1, false, hil, rfl, ?_⟩
    rw [t1, t2, t3]
  have hiK : i = K := by omega
  subst hiK
  simp +contextual -implicitDefEqProofs only [K7, SS, reduceAdd,reduceSub,reduceLeDiff,reduceEqDiff,reduceCtorEq, hil]
  refine WC.leave ?_
  have hq := input_q (tyN i) sch_bb (v := .mk 1 n [] [] []) (vlN_ok (n := n) (by omega) 0)
  rw [deep_val n h2 i, tyN_row, Val.row_eq] at hq
  simp +contextual -implicitDefEqProofs only [K7, SS, reduceAdd,reduceSub,reduceLeDiff,reduceEqDiff,reduceCtorEq, w1]
  refine WC.call hq rfl rfl ?_
  rintro _ _ ⟨hS, rfl⟩
  dsimp only
  rw [(vlN n i).row_eta]
  simp +contextual -implicitDefEqProofs only [K7, SS, reduceAdd,reduceSub,reduceLeDiff,reduceEqDiff,reduceCtorEq]
  generalize hfr : AV.box [.str (tyN i).name, .list w (tyN i).of, .bool (tyN i).bang] = b5
  refine WC.loopR (fun mm fr st' => ∃ (j : Nat), j ≤ i ∧ mm = i - j ∧ fr = [.int .i32 n, .int .u8 k, .bool false, .ptr 14 0, .bool true, b5, .int .i64 i, .int .i64 i, .box [.int .u8 (vlN n (i - j)).kind, .int .i64 (vlN n (i - j)).num, .str (vlN n (i - j)).text, .list false ((vlN n (i - j)).names.map strRow), .list false ((vlN n (i - j)).vals.map Val.row)], .int .i64 0, .int .i64 j]) (m := i) ⟨0, Nat.zero_le _, rfl, rfl⟩ ?_
  rintro mm fr st' ⟨j, hj, rfl, rfl⟩
  simp +contextual -implicitDefEqProofs only [K7, SS, reduceAdd,reduceSub,reduceLeDiff,reduceEqDiff,reduceCtorEq, ltN]
  by_cases hjl : j < i
  · obtain ⟨d, hd⟩ : ∃ d, i - j = d + 1 := ⟨i - j - 1, by omega⟩
    have hd' : i - (j + 1) = d := by omega
    rw [hd]
    have e1 : (vlN n (d + 1)).kind = 5 := rfl
    have e2 : (vlN n (d + 1)).vals = [vlN n d] := rfl
    have e3 : ([(vlN n d).row] : List (List AV)).length = 1 := rfl
    have e4 := (vlN n d).row_eta
    rw [e1, e2, List.map_cons, List.map_nil, e4]
    simp +contextual -implicitDefEqProofs only [K7, SS, reduceAdd,reduceSub,reduceLeDiff,reduceEqDiff,reduceCtorEq, hjl, show eqI 5 5 = true from rfl, List.length_cons, List.length_nil, show eqI (((0 + 1 : Nat)) : Int) 1 = true from rfl, show eqI (((1 : Nat)) : Int) 1 = true from rfl, Bool.not_true, Bool.or_false, List.getElem?_cons_zero]
    refine WC.next (m' := i - (j + 1)) (by omega) ⟨j + 1, hjl, rfl, ?_⟩
    rw [hd', inc64 (show j + 1 < 2 ^ 63 by omega)]
  · have hji : i - j = 0 := by omega
    rw [hji]
    simp +contextual -implicitDefEqProofs only [K7, SS, reduceAdd,reduceSub,reduceLeDiff,reduceEqDiff,reduceCtorEq, hjl]
    refine WC.leave ?_
    simp +contextual -implicitDefEqProofs only [K7, SS, reduceAdd,reduceSub,reduceLeDiff,reduceEqDiff,reduceCtorEq, w1, show eqI 0 0 = true from rfl, show (vlN n 0).kind = 1 from rfl, show (vlN n 0).num = n from rfl, show eqI 1 1 = true from rfl, eqI_refl, Bool.true_and]
    exact WC.ret ⟨_, _, rfl, rfl⟩
end Go.Cb.CodeA
