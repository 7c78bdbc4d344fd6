import Derived.Test.YtpalalebligmoaaGreatDoorS3
set_option maxRecDepth 20000
set_option linter.unusedSimpArgs false
set_option linter.unusedVariables false
namespace Go.Cb.CodeA
open Go Go.Cb
open Nat (reduceAdd reduceSub reduceLeDiff reduceEqDiff)
attribute [local congr] obind_congr gv_congr2 gv2_congr brT_congr seqK_congr blkK_congr m1_congr gm_congr
/-- a value of a type by its name -/
def namedF (p : Bool) (fl : Val → CRes) (n : List Nat) (v : Val) : CRes :=
  if eqN n [73, 110, 116] && eqI v.kind 1 && eqI v.num (wrapA .i64 (wrapA .i32 v.num)) then (v, true, 0)
  else if eqN n [83, 116, 114, 105, 110, 103] && eqI v.kind 2 then (v, true, 0)
  else if eqN n [66, 111, 111, 108, 101, 97, 110] && eqI v.kind 3 then (v, true, 0)
  else if eqN n [73, 68] && eqI v.kind 2 then (v, true, 0)
  else if eqN n [73, 68] && eqI v.kind 1 then (.mk 2 0 (itoaN v.num) [] [], true, 0)
  else if (eqI (tk n) 4 && (eqI v.kind 4 || eqI v.kind 2 && p)) && (gI [[65], [66]] v.text).isSome then (.mk 4 0 v.text [] [], true, 0)
  else if eqI (tk n) 5 && eqI v.kind 6 then ((fl v).1, eqI (fl v).2.2 0, (fl v).2.2)
  else cErr 8
theorem tk_E {n : List Nat} (h : eqI (tk n) 4 = true) : n = sE := by
  unfold tk at h
  split at h
  · assumption
  · exfalso; revert h; split
    · decide
    · split
      · decide
      · split <;> decide
theorem tk_I {n : List Nat} (h : eqI (tk n) 5 = true) : n = sI := by
  unfold tk at h
  split at h
  · exact absurd h (by decide)
  · split at h
    · assumption
    · exfalso; revert h; split
      · decide
      · split <;> decide
theorem named_q {p : Bool} {G : St → Prop} (hG : ∀ st, G st → Sch st) {st : St} (hst : G st) (n : List Nat) (v : Val) (hv : v.Ok) (fl : Val → CRes)
    (hF : n = [73] → ∀ st, G st → EvQ tbl 76 [.agg (Cc p), .list false (FI.map FD.row), .agg v.row] st (fun a st' => G st' ∧ ∃ s, a = .tuple [.agg (fl v).1.row, .str s, .int .i64 (fl v).2.2])) :
    EvQ tbl 47 [.agg (Cc p), .str n, .agg v.row] st (fun a st' => G st' ∧ a = ansR (namedF p fl n v)) := by
  have hr := hv.inR
  rw [Cc, v.row_eta] at *
  refine EvQ.body (fn := a47) rfl rfl rfl ?_
  simp +contextual -implicitDefEqProofs only [K47, SS, reduceAdd,reduceSub,reduceLeDiff,reduceEqDiff,reduceCtorEq]
  refine WC.call (type_q n (hG _ hst)) rfl rfl ?_
  rintro _ _ ⟨rfl, nm, fs, ns, b, rfl, hE, hI⟩
  unfold namedF
  simp +contextual -implicitDefEqProofs only [K47, SS, reduceAdd,reduceSub,reduceLeDiff,reduceEqDiff,reduceCtorEq]
  rcases bool_tf (eqN n [73, 110, 116] && eqI v.kind 1 && eqI v.num (wrapA .i64 (wrapA .i32 v.num))) with c | c
  · rw [if_pos c]
    simp +contextual -implicitDefEqProofs only [K47, SS, reduceAdd,reduceSub,reduceLeDiff,reduceEqDiff,reduceCtorEq, c]
    refine WC.ret ⟨_, _, rfl, hst, ?_⟩
    rw [ansR, v.row_eta]
    rfl
  rw [c, if_neg (by decide)]
  simp +contextual -implicitDefEqProofs only [K47, SS, reduceAdd,reduceSub,reduceLeDiff,reduceEqDiff,reduceCtorEq]
  rcases bool_tf (eqN n [83, 116, 114, 105, 110, 103] && eqI v.kind 2) with c | c
  · rw [if_pos c]
    simp +contextual -implicitDefEqProofs only [K47, SS, reduceAdd,reduceSub,reduceLeDiff,reduceEqDiff,reduceCtorEq, c]
    refine WC.ret ⟨_, _, rfl, hst, ?_⟩
    rw [ansR, v.row_eta]
    rfl
  rw [c, if_neg (by decide)]
  simp +contextual -implicitDefEqProofs only [K47, SS, reduceAdd,reduceSub,reduceLeDiff,reduceEqDiff,reduceCtorEq]
  rcases bool_tf (eqN n [66, 111, 111, 108, 101, 97, 110] && eqI v.kind 3) with c | c
  · rw [if_pos c]
    simp +contextual -implicitDefEqProofs only [K47, SS, reduceAdd,reduceSub,reduceLeDiff,reduceEqDiff,reduceCtorEq, c]
    refine WC.ret ⟨_, _, rfl, hst, ?_⟩
    rw [ansR, v.row_eta]
    rfl
  rw [c, if_neg (by decide)]
  simp +contextual -implicitDefEqProofs only [K47, SS, reduceAdd,reduceSub,reduceLeDiff,reduceEqDiff,reduceCtorEq]
  rcases bool_tf (eqN n [73, 68] && eqI v.kind 2) with c | c
  · rw [if_pos c]
    simp +contextual -implicitDefEqProofs only [K47, SS, reduceAdd,reduceSub,reduceLeDiff,reduceEqDiff,reduceCtorEq, c]
    refine WC.ret ⟨_, _, rfl, hst, ?_⟩
    rw [ansR, v.row_eta]
    rfl
  rw [c, if_neg (by decide)]
  simp +contextual -implicitDefEqProofs only [K47, SS, reduceAdd,reduceSub,reduceLeDiff,reduceEqDiff,reduceCtorEq]
  rcases bool_tf (eqN n [73, 68] && eqI v.kind 1) with c | c
  · rw [if_pos c]
    simp +contextual -implicitDefEqProofs only [K47, SS, reduceAdd,reduceSub,reduceLeDiff,reduceEqDiff,reduceCtorEq, c]
    refine WC.call (fmt_q v.num hr.1 hr.2 _) rfl rfl ?_
    rintro _ _ ⟨rfl, rfl⟩
    simp +contextual -implicitDefEqProofs only [K47, SS, reduceAdd,reduceSub,reduceLeDiff,reduceEqDiff,reduceCtorEq]
    refine WC.ret ⟨_, _, rfl, hst, ?_⟩
    rw [ansR, Val.row_eq]
    rfl
  rw [c, if_neg (by decide)]
  simp +contextual -implicitDefEqProofs only [K47, SS, reduceAdd,reduceSub,reduceLeDiff,reduceEqDiff,reduceCtorEq]
  refine WC.g2 (fun c4 => ?_) (fun c4 => ?_)
  · have hns := hE (tk_E (by simp only [Bool.and_eq_true] at c4; exact c4.1))
    subst hns
    simp +contextual -implicitDefEqProofs only [K47, SS, reduceAdd,reduceSub,reduceLeDiff,reduceEqDiff,reduceCtorEq, c4]
    refine WC.call (contains_q [[65], [66]] (by decide) v.text _) rfl rfl ?_
    rintro _ _ ⟨rfl, rfl⟩
    have h4 : eqI (tk n) 4 = true := by simp only [Bool.and_eq_true] at c4; exact c4.1
    have h5 : eqI (tk n) 5 = false := by rw [show tk n = 4 by rw [eqI_eq] at h4; simpa using h4]; rfl
    simp +contextual -implicitDefEqProofs only [K47, SS, reduceAdd,reduceSub,reduceLeDiff,reduceEqDiff,reduceCtorEq, c4]
    rcases bool_tf (gI [[65], [66]] v.text).isSome with cs | cs
    · rw [if_pos cs]
      simp +contextual -implicitDefEqProofs only [K47, SS, reduceAdd,reduceSub,reduceLeDiff,reduceEqDiff,reduceCtorEq, cs]
      refine WC.ret ⟨_, _, rfl, hst, ?_⟩
      rw [ansR, Val.row_eq]
      rfl
    · rw [cs, if_neg (by decide), h5, Bool.false_and, if_neg (by decide)]
      simp +contextual -implicitDefEqProofs only [K47, SS, reduceAdd,reduceSub,reduceLeDiff,reduceEqDiff,reduceCtorEq, h5, Bool.false_and]
      refine WC.ret ⟨_, _, rfl, hst, ?_⟩
      rw [ansR, cErr, Val.none_row]
      rfl
  · have c4 : (eqI (tk n) 4 && (eqI v.kind 4 || eqI v.kind 2 && p)) = false := by simpa using c4
    rw [c4, Bool.false_and, if_neg (by decide)]
    simp +contextual -implicitDefEqProofs only [K47, SS, reduceAdd,reduceSub,reduceLeDiff,reduceEqDiff,reduceCtorEq, c4]
    rcases bool_tf (eqI (tk n) 5 && eqI v.kind 6) with c5 | c5
    · have hn := tk_I (by simp only [Bool.and_eq_true] at c5; exact c5.1)
      have hfs := hI hn
      subst hfs
      rw [if_pos c5]
      simp +contextual -implicitDefEqProofs only [K47, SS, reduceAdd,reduceSub,reduceLeDiff,reduceEqDiff,reduceCtorEq, c5]
      refine WC.call (hF hn _ hst) rfl rfl ?_
      rintro _ _ ⟨hst, s, rfl⟩
      rw [(fl v).1.row_eta]
      simp +contextual -implicitDefEqProofs only [K47, SS, reduceAdd,reduceSub,reduceLeDiff,reduceEqDiff,reduceCtorEq]
      refine WC.ret ⟨_, _, rfl, hst, ?_⟩
      rw [ansR, (fl v).1.row_eta]
      rfl
    · rw [c5, if_neg (by decide)]
      simp +contextual -implicitDefEqProofs only [K47, SS, reduceAdd,reduceSub,reduceLeDiff,reduceEqDiff,reduceCtorEq, c5]
      refine WC.ret ⟨_, _, rfl, hst, ?_⟩
      rw [ansR, cErr, Val.none_row]
      rfl
end Go.Cb.CodeA
