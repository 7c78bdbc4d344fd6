import Derived.Test.YtpalalebligmoaaGreatDoorS7
set_option maxRecDepth 20000
set_option linter.unusedSimpArgs false
set_option linter.unusedVariables false
namespace Go.Cb.CodeA
open Go Go.Cb
open Nat (reduceAdd reduceSub reduceLeDiff reduceEqDiff)
attribute [local congr] obind_congr gv_congr2 gv2_congr brT_congr seqK_congr blkK_congr m1_congr gm_congr
theorem eqN_comm (a b : List Nat) : eqN a b = eqN b a := by
  rcases bool_tf (eqN a b) with h | h
  · rw [h, (eqN_iff _ _).1 h, eqN_refl]
  · rw [h]; exact ((eqN_false _ _).2 (fun e => (eqN_false _ _).1 h e.symm)).symm
theorem has_q (ks : List (List Nat)) (hl : ks.length ≤ 3000) (n : List Nat) (st : St) : EvQ tbl 28 [.list false (ks.map strRow), .str n] st (fun a st' => st' = st ∧ a = .bool (gI ks n).isSome) := by
  refine EvQ.body (fn := a28) rfl rfl rfl ?_
  simp +contextual -implicitDefEqProofs only [K28, SS, reduceAdd,reduceSub,reduceLeDiff,reduceEqDiff,reduceCtorEq, List.length_map]
  refine WC.loopR (fun mm fr st' => st' = st ∧ ∃ (i : Nat), i ≤ ks.length ∧ mm = ks.length - i ∧ (gI ks n).isSome = (gI (ks.drop i) n).isSome ∧ fr = [.list false (ks.map strRow), .str n, .bool false, .int .i64 i]) (m := ks.length) ⟨rfl, 0, Nat.zero_le _, rfl, by simp, rfl⟩ ?_
  rintro mm fr st' ⟨rfl, i, hi, rfl, hX, rfl⟩
  simp +contextual -implicitDefEqProofs only [K28, SS, reduceAdd,reduceSub,reduceLeDiff,reduceEqDiff,reduceCtorEq, ltN, List.length_map]
  by_cases hil : i < ks.length
  rotate_left
  · rw [List.drop_of_length_le (by omega)] at hX
    rw [hX]
    simp +contextual -implicitDefEqProofs only [K28, SS, reduceAdd,reduceSub,reduceLeDiff,reduceEqDiff,reduceCtorEq, hil]
    refine WC.leave ?_
    simp +contextual -implicitDefEqProofs only [K28, SS, reduceAdd,reduceSub,reduceLeDiff,reduceEqDiff,reduceCtorEq]
    exact WC.ret ⟨_, _, rfl, rfl, rfl⟩
  have e2 := str_at hil
  rw [gI_at hil, eqN_comm] at hX
  revert e2 hX
  generalize ks[i] = x
  intro hX e2
  simp +contextual -implicitDefEqProofs only [K28, SS, reduceAdd,reduceSub,reduceLeDiff,reduceEqDiff,reduceCtorEq, hil, e2]
  rcases bool_tf (eqN x n) with hx | hx
  · rw [if_pos hx] at hX
    rw [hX]
    simp +contextual -implicitDefEqProofs only [K28, SS, reduceAdd,reduceSub,reduceLeDiff,reduceEqDiff,reduceCtorEq, hx]
    refine WC.leaveR ?_
    simp +contextual -implicitDefEqProofs only [K28, SS, reduceAdd,reduceSub,reduceLeDiff,reduceEqDiff,reduceCtorEq]
    exact WC.ret ⟨_, _, rfl, rfl, rfl⟩
  · rw [hx, if_neg (by decide)] at hX
    simp +contextual -implicitDefEqProofs only [K28, SS, reduceAdd,reduceSub,reduceLeDiff,reduceEqDiff,reduceCtorEq, hx, inc64 (show i + 1 < 2 ^ 63 by omega)]
    refine WC.next (m' := ks.length - (i + 1)) (by omega) ⟨rfl, i + 1, hil, rfl, ?_, rfl⟩
    rw [hX]
    cases gI (ks.drop (i + 1)) n <;> rfl
/-- where a field of that name stands -/
def fI : List FD → List Nat → Option Nat
  | [], _ => none
  | f :: F, n => if eqN f.name n then some 0 else (fI F n).map (· + 1)
theorem fI_at {F : List FD} {n : List Nat} {i : Nat} (h : i < F.length) : fI (F.drop i) n = if eqN F[i].name n then some 0 else (fI (F.drop (i + 1)) n).map (· + 1) := by
  rw [List.drop_eq_getElem_cons h, fI]
theorem field_q (F : List FD) (hl : F.length ≤ 3000) (n : List Nat) (st : St) : EvQ tbl 29 [.list false (F.map FD.row), .str n] st (fun a st' => st' = st ∧ a = .int .i64 (match fI F n with | some i => (i : Int) | none => -1)) := by
  refine EvQ.body (fn := a29) rfl rfl rfl ?_
  simp +contextual -implicitDefEqProofs only [K29, SS, reduceAdd,reduceSub,reduceLeDiff,reduceEqDiff,reduceCtorEq, List.length_map]
  refine WC.loopR (fun mm fr st' => st' = st ∧ ∃ (i : Nat), i ≤ F.length ∧ mm = F.length - i ∧ fI F n = (fI (F.drop i) n).map (· + i) ∧ fr = [.list false (F.map FD.row), .str n, .int .i64 0, .int .i64 i]) (m := F.length) ⟨rfl, 0, Nat.zero_le _, rfl, by simp, rfl⟩ ?_
  rintro mm fr st' ⟨rfl, i, hi, rfl, hX, rfl⟩
  simp +contextual -implicitDefEqProofs only [K29, SS, reduceAdd,reduceSub,reduceLeDiff,reduceEqDiff,reduceCtorEq, ltN, List.length_map]
  by_cases hil : i < F.length
  rotate_left
  · rw [List.drop_of_length_le (by omega)] at hX
    rw [hX]
    simp +contextual -implicitDefEqProofs only [K29, SS, reduceAdd,reduceSub,reduceLeDiff,reduceEqDiff,reduceCtorEq, hil]
    refine WC.leave ?_
    simp +contextual -implicitDefEqProofs only [K29, SS, reduceAdd,reduceSub,reduceLeDiff,reduceEqDiff,reduceCtorEq]
    exact WC.ret ⟨_, _, rfl, rfl, rfl⟩
  have e2 : (F.map FD.row)[i]? = some (F[i]).row := by rw [List.getElem?_map, List.getElem?_eq_getElem hil]; rfl
  rw [fI_at hil] at hX
  revert e2 hX
  generalize F[i] = x
  intro hX e2
  rw [FD.row] at e2
  simp +contextual -implicitDefEqProofs only [K29, SS, reduceAdd,reduceSub,reduceLeDiff,reduceEqDiff,reduceCtorEq, hil, e2]
  rcases bool_tf (eqN x.name n) with hx | hx
  · rw [if_pos hx] at hX
    rw [hX]
    simp +contextual -implicitDefEqProofs only [K29, SS, reduceAdd,reduceSub,reduceLeDiff,reduceEqDiff,reduceCtorEq, hx]
    refine WC.leaveR ?_
    simp +contextual -implicitDefEqProofs only [K29, SS, reduceAdd,reduceSub,reduceLeDiff,reduceEqDiff,reduceCtorEq]
    refine WC.ret ⟨_, _, rfl, rfl, ?_⟩
    simp
    rfl
  · rw [hx, if_neg (by decide)] at hX
    simp +contextual -implicitDefEqProofs only [K29, SS, reduceAdd,reduceSub,reduceLeDiff,reduceEqDiff,reduceCtorEq, hx, inc64 (show i + 1 < 2 ^ 63 by omega)]
    refine WC.next (m' := F.length - (i + 1)) (by omega) ⟨rfl, i + 1, hil, rfl, ?_, rfl⟩
    rw [hX]
    cases fI (F.drop (i + 1)) n with
    | none => rfl
    | some j => simp; omega
theorem rtype_q (n : List Nat) {st : St} (h : Sch st) : EvQ tbl 27 [.ptr 23 0, .str n] st (fun a st' => st' = st ∧ ∃ nm fs ns, a = .agg [.int .u8 (tk n), .str nm, .list false fs, .list false ns] ∧ (n = sE → ns = [[65], [66]].map strRow) ∧ (n = sI → fs = FI.map FD.row)) := by
  obtain ⟨_, _, h1⟩ := h
  rw [v4_eq] at h1
  unfold rowE rowI at h1
  refine EvQ.body (fn := a27) rfl rfl rfl ?_
  simp +contextual -implicitDefEqProofs only [K27, SS, reduceAdd,reduceSub,reduceLeDiff,reduceEqDiff,reduceCtorEq]
  refine WC.loopR (fun mm fr st' => st' = st ∧ ∃ (i : Nat), i ≤ 4 ∧ mm = 4 - i ∧ (0 < i → n ≠ [69]) ∧ (1 < i → n ≠ [73]) ∧ (2 < i → n ≠ [84]) ∧ (3 < i → n ≠ [81, 117, 101, 114, 121]) ∧ fr = [.ptr 23 0, .str n, .box [.int .u8 0, .str [], .list true [], .list true []], .int .i64 i]) (m := 4) ⟨rfl, 0, by decide, rfl, by simp, by simp, by simp, by simp, rfl⟩ ?_
  rintro mm fr st' ⟨rfl, i, hi, rfl, hn1, hn2, hn3, hn4, rfl⟩
  have hcs : i = 0 ∨ i = 1 ∨ i = 2 ∨ i = 3 ∨ i = 4 := by omega
  have nxt : ∀ {a b : List Nat}, eqN a b = false → b ≠ a := fun h e => (eqN_false _ _).1 h e.symm
  rcases hcs with rfl | rfl | rfl | rfl | rfl
  · have hinc := inc64 (i := 0) (by decide)
    simp +contextual -implicitDefEqProofs only [K27, SS, reduceAdd,reduceSub,reduceLeDiff,reduceEqDiff,reduceCtorEq, h1, List.length_cons, List.length_nil, ltN, show (0 < 4) = True by simp, List.getElem?_cons_zero, List.getElem?_cons_succ]
    rcases bool_tf (eqN [69] n) with c | c
    · simp +contextual -implicitDefEqProofs only [K27, SS, reduceAdd,reduceSub,reduceLeDiff,reduceEqDiff,reduceCtorEq, c, h1, List.getElem?_cons_zero, List.getElem?_cons_succ]
      refine WC.leaveR ?_
      simp +contextual -implicitDefEqProofs only [K27, SS, reduceAdd,reduceSub,reduceLeDiff,reduceEqDiff,reduceCtorEq]
      obtain rfl := (eqN_iff _ _).1 c
      exact WC.ret ⟨_, _, rfl, rfl, _, _, _, rfl, fun h => rfl, fun h => (by cases h)⟩
    · simp +contextual -implicitDefEqProofs only [K27, SS, reduceAdd,reduceSub,reduceLeDiff,reduceEqDiff,reduceCtorEq, c, hinc]
      have c' := nxt c
      exact WC.next (m' := 4 - 1) (by decide) ⟨rfl, 1, by decide, rfl, fun _ => c', fun h => absurd h (by decide), fun h => absurd h (by decide), fun h => absurd h (by decide), rfl⟩
  · have hinc := inc64 (i := 1) (by decide)
    simp +contextual -implicitDefEqProofs only [K27, SS, reduceAdd,reduceSub,reduceLeDiff,reduceEqDiff,reduceCtorEq, h1, List.length_cons, List.length_nil, ltN, show (1 < 4) = True by simp, List.getElem?_cons_zero, List.getElem?_cons_succ]
    rcases bool_tf (eqN [73] n) with c | c
    · simp +contextual -implicitDefEqProofs only [K27, SS, reduceAdd,reduceSub,reduceLeDiff,reduceEqDiff,reduceCtorEq, c, h1, List.getElem?_cons_zero, List.getElem?_cons_succ]
      refine WC.leaveR ?_
      simp +contextual -implicitDefEqProofs only [K27, SS, reduceAdd,reduceSub,reduceLeDiff,reduceEqDiff,reduceCtorEq]
      obtain rfl := (eqN_iff _ _).1 c
      exact WC.ret ⟨_, _, rfl, rfl, _, _, _, rfl, fun h => (by cases h), fun h => rfl⟩
    · simp +contextual -implicitDefEqProofs only [K27, SS, reduceAdd,reduceSub,reduceLeDiff,reduceEqDiff,reduceCtorEq, c, hinc]
      have c' := nxt c
      exact WC.next (m' := 4 - 2) (by decide) ⟨rfl, 2, by decide, rfl, fun _ => hn1 (by decide), fun _ => c', fun h => absurd h (by decide), fun h => absurd h (by decide), rfl⟩
  · have hinc := inc64 (i := 2) (by decide)
    simp +contextual -implicitDefEqProofs only [K27, SS, reduceAdd,reduceSub,reduceLeDiff,reduceEqDiff,reduceCtorEq, h1, List.length_cons, List.length_nil, ltN, show (2 < 4) = True by simp, List.getElem?_cons_zero, List.getElem?_cons_succ]
    rcases bool_tf (eqN [84] n) with c | c
    · simp +contextual -implicitDefEqProofs only [K27, SS, reduceAdd,reduceSub,reduceLeDiff,reduceEqDiff,reduceCtorEq, c, h1, List.getElem?_cons_zero, List.getElem?_cons_succ]
      refine WC.leaveR ?_
      simp +contextual -implicitDefEqProofs only [K27, SS, reduceAdd,reduceSub,reduceLeDiff,reduceEqDiff,reduceCtorEq]
      obtain rfl := (eqN_iff _ _).1 c
      exact WC.ret ⟨_, _, rfl, rfl, _, _, _, rfl, fun h => (by cases h), fun h => (by cases h)⟩
    · simp +contextual -implicitDefEqProofs only [K27, SS, reduceAdd,reduceSub,reduceLeDiff,reduceEqDiff,reduceCtorEq, c, hinc]
      have c' := nxt c
      exact WC.next (m' := 4 - 3) (by decide) ⟨rfl, 3, by decide, rfl, fun _ => hn1 (by decide), fun _ => hn2 (by decide), fun _ => c', fun h => absurd h (by decide), rfl⟩
  · have hinc := inc64 (i := 3) (by decide)
    simp +contextual -implicitDefEqProofs only [K27, SS, reduceAdd,reduceSub,reduceLeDiff,reduceEqDiff,reduceCtorEq, h1, List.length_cons, List.length_nil, ltN, show (3 < 4) = True by simp, List.getElem?_cons_zero, List.getElem?_cons_succ]
    rcases bool_tf (eqN [81, 117, 101, 114, 121] n) with c | c
    · simp +contextual -implicitDefEqProofs only [K27, SS, reduceAdd,reduceSub,reduceLeDiff,reduceEqDiff,reduceCtorEq, c, h1, List.getElem?_cons_zero, List.getElem?_cons_succ]
      refine WC.leaveR ?_
      simp +contextual -implicitDefEqProofs only [K27, SS, reduceAdd,reduceSub,reduceLeDiff,reduceEqDiff,reduceCtorEq]
      obtain rfl := (eqN_iff _ _).1 c
      exact WC.ret ⟨_, _, rfl, rfl, _, _, _, rfl, fun h => (by cases h), fun h => (by cases h)⟩
    · simp +contextual -implicitDefEqProofs only [K27, SS, reduceAdd,reduceSub,reduceLeDiff,reduceEqDiff,reduceCtorEq, c, hinc]
      have c' := nxt c
      exact WC.next (m' := 4 - 4) (by decide) ⟨rfl, 4, by decide, rfl, fun _ => hn1 (by decide), fun _ => hn2 (by decide), fun _ => hn3 (by decide), fun _ => c', rfl⟩
  · simp +contextual -implicitDefEqProofs only [K27, SS, reduceAdd,reduceSub,reduceLeDiff,reduceEqDiff,reduceCtorEq, h1, List.length_cons, List.length_nil, ltN, show (4 < 4) = False by simp]
    refine WC.leave ?_
    simp +contextual -implicitDefEqProofs only [K27, SS, reduceAdd,reduceSub,reduceLeDiff,reduceEqDiff,reduceCtorEq]
    refine WC.ret ⟨_, _, rfl, rfl, [], [], [], ?_, fun h => absurd h (hn1 (by decide)), fun h => absurd h (hn2 (by decide))⟩
    rw [show tk n = 0 by unfold tk sE sI sT sQ; rw [if_neg (hn1 (by decide)), if_neg (hn2 (by decide)), if_neg (hn3 (by decide)), if_neg (hn4 (by decide))]]
    rfl
end Go.Cb.CodeA
