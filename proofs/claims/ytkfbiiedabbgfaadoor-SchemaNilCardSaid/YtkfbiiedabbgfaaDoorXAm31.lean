/-
  THE ABSTRACT MACHINE, part 31: more fuel does no harm.
-/
import Derived.Test.YtkfbiiedabbgfaaDoorXAm28
import Derived.Test.YtkfbiiedabbgfaaDoorXAm23
set_option maxRecDepth 4000
set_option linter.unusedSimpArgs false
namespace Go.Cb
open Classical

/-- one way of calling answers all that another answers -/
def CallLe (c c' : CallT) : Prop := ∀ f as st r, c f as st = some r → c' f as st = some r

theorem sem_le {c c' : CallT} (h : CallLe c c') {k : Kind} {as : List AV} {b : AV} {st : St} {r : AV × AV × St} (hs : sem k c as b st = some r) : sem k c' as b st = some r := by
  cases k
  case call f =>
    simp only [sem, semCall] at hs ⊢
    split at hs
    · rename_i hp
      rw [if_pos hp]
      obtain ⟨x, hx, rfl⟩ := Option.map_eq_some_iff.1 hs
      rw [h _ _ _ _ hx]
      rfl
    · cases hs
  case callV =>
    simp only [sem] at hs ⊢
    unfold semCallV at hs ⊢
    split at hs
    · split at hs
      · rename_i hp
        simp only [if_pos hp]
        obtain ⟨x, hx, rfl⟩ := Option.map_eq_some_iff.1 hs
        rw [h _ _ _ _ hx]
        rfl
      · cases hs
    · cases hs
  all_goals exact hs

theorem goOp_le {c c' : CallT} (h : CallLe c c') {o : AOper} {σ σ' : Sig} (hs : goOp c o σ = some σ') : goOp c' o σ = some σ' := by
  obtain ⟨r, b', st', h1, rfl⟩ := goOp_some hs
  exact goOp_mk (sem_le h h1)
theorem stepOp_le {c c' : CallT} (h : CallLe c c') {o : AOper} {σ σ' : Sig} (hs : stepOp c o σ = some σ') : stepOp c' o σ = some σ' := by
  unfold stepOp at hs ⊢
  split at hs
  · exact goOp_le h hs
  · split at hs
    · split at hs
      · rename_i hc; rw [if_pos hc]; exact goOp_le h hs
      · rename_i hc; rw [if_neg hc]; exact hs
    · exact hs
    · cases hs
theorem runOps_le {c c' : CallT} (h : CallLe c c') : ∀ {os : List AOper} {σ σ' : Sig}, runOps c os σ = some σ' → runOps c' os σ = some σ'
  | [], _, _, hs => hs
  | o :: os, σ, σ', hs => by
    simp only [runOps] at hs ⊢
    cases hq : stepOp c o σ with
    | none => simp [hq] at hs
    | some σ1 =>
      simp only [hq] at hs
      simp only [stepOp_le h hq]
      exact runOps_le h hs
theorem iter_le {body body' : List AV → St → Option Out} (h : ∀ fr st r, body fr st = some r → body' fr st = some r) : ∀ {n m : Nat} {fr : List AV} {st : St} {r : Out}, n ≤ m → iter body n fr st = some r → iter body' m fr st = some r
  | 0, _, _, _, _, _, hs => by simp [iter] at hs
  | n + 1, 0, _, _, _, hle, _ => by omega
  | n + 1, m + 1, fr, st, r, hle, hs => by
    simp only [iter] at hs ⊢
    cases hq : body fr st with
    | none => simp [hq] at hs
    | some o =>
      rw [hq] at hs
      rw [h _ _ _ hq]
      obtain ⟨e, fr1, st1⟩ := o
      cases e with
      | normal => exact iter_le h (by omega) hs
      | exit id => exact hs
      | ret => exact hs
theorem exec_le {c c' : CallT} (h : CallLe c c') {n m : Nat} (hle : n ≤ m) : ∀ {x : ACode} {fr : List AV} {st : St} {r : Out}, exec c n x fr st = some r → exec c' m x fr st = some r
  | .skip, _, _, _, hs => hs
  | .exit _, _, _, _, hs => hs
  | .ret, _, _, _, hs => hs
  | .reg kill ops, fr, st, r, hs => by
    simp only [exec] at hs ⊢
    cases hq : runOps c ops ⟨killAll kill fr, fun _ => .undef, st⟩ with
    | none => simp [hq] at hs
    | some σ => rw [hq] at hs; rw [runOps_le h hq]; exact hs
  | .test kill ops x a b, fr, st, r, hs => by
    rw [exec_test] at hs ⊢
    rw [runK_eq] at hs ⊢
    cases hq : runOps c ops ⟨killAll kill fr, fun _ => .undef, st⟩ with
    | none => rw [hq] at hs; cases hs
    | some σ =>
      rw [hq] at hs
      rw [runOps_le h hq]
      rw [obind_some] at hs ⊢
      unfold br at hs ⊢
      split at hs
      · exact exec_le h hle hs
      · exact exec_le h hle hs
      · cases hs
  | .seq a b, fr, st, r, hs => by
    rw [exec_seqK] at hs ⊢
    cases hq : exec c n a fr st with
    | none => rw [hq] at hs; cases hs
    | some o =>
      rw [hq] at hs
      rw [exec_le h hle hq]
      obtain ⟨e, fr1, st1⟩ := o
      cases e with
      | normal => exact exec_le h hle hs
      | exit id => exact hs
      | ret => exact hs
  | .blk id a, fr, st, r, hs => by
    simp only [exec] at hs ⊢
    cases hq : exec c n a fr st with
    | none => rw [hq] at hs; cases hs
    | some o => rw [hq] at hs; rw [exec_le h hle hq]; exact hs
  | .loop a, fr, st, r, hs => by
    simp only [exec] at hs ⊢
    exact iter_le (fun _ _ _ hb => exec_le h hle hb) hle hs
theorem run_le {c c' : CallT} (h : CallLe c c') {n m : Nat} (hle : n ≤ m) {fn : AFn} {args : List AV} {st : St} {r : AV × St} (hs : fn.run c n args st = some r) : fn.run c' m args st = some r := by
  have hl : args.length = fn.np := by
    unfold AFn.run at hs
    split at hs
    · assumption
    · cases hs
  rw [run_finK _ _ _ _ _ hl] at hs ⊢
  cases hq : exec c n fn.code (args ++ List.replicate (fn.nv - fn.np) .undef) st with
  | none => rw [hq] at hs; cases hs
  | some o => rw [hq] at hs; rw [exec_le h hle hq]; exact hs
theorem callF_le {tbl : Nat → Option AFn} : ∀ {n m : Nat}, n ≤ m → CallLe (callF tbl n) (callF tbl m)
  | 0, _, _, _, _, _, _, hs => by simp [callF] at hs
  | n + 1, 0, hle, _, _, _, _, _ => by omega
  | n + 1, m + 1, hle, f, as, st, r, hs => by
    simp only [callF] at hs ⊢
    cases htb : tbl f with
    | none => simp [htb] at hs
    | some fn =>
      simp only [htb] at hs ⊢
      cases he : fn.ext with
      | some e => simp only [he] at hs ⊢; exact hs
      | none =>
        simp only [he] at hs ⊢
        exact run_le (callF_le (by omega)) (by omega) hs

/-- a call that comes to an answer, with enough fuel -/
def Ev (tbl : Nat → Option AFn) (f : Nat) (as : List AV) (st : St) (r : AV) (st' : St) : Prop := ∃ n, callF tbl n f as st = some (r, st')
theorem Ev.ge {tbl : Nat → Option AFn} {f : Nat} {as : List AV} {st : St} {r : AV} {st' : St} (h : Ev tbl f as st r st') : ∃ n0, ∀ n, n0 ≤ n → callF tbl n f as st = some (r, st') :=
  let ⟨n, hn⟩ := h; ⟨n, fun m hm => callF_le hm _ _ _ _ hn⟩
end Go.Cb
