/-
  THE ABSTRACT MACHINE, part 32: rules for what code comes to, with enough fuel.
-/
import Derived.Test.YtkfbiiedabbgfaaDoorXAm31
set_option maxRecDepth 4000
set_option linter.unusedVariables false
namespace Go.Cb
open Classical

section
variable {tbl : Nat → Option AFn}

/-- code comes to that, with enough fuel -/
def XC (tbl : Nat → Option AFn) (x : ACode) (fr : List AV) (st : St) (out : Out) : Prop := ∃ n, exec (callF tbl n) n x fr st = some out
theorem XC.ge {x : ACode} {fr : List AV} {st : St} {out : Out} (h : XC tbl x fr st out) : ∃ n0, ∀ n, n0 ≤ n → exec (callF tbl n) n x fr st = some out :=
  let ⟨n, hn⟩ := h; ⟨n, fun m hm => exec_le (callF_le hm) hm hn⟩

/-- k rounds of a loop, with enough fuel -/
def LX (tbl : Nat → Option AFn) (x : ACode) (fr : List AV) (st : St) (out : Out) : Prop := ∃ n k, iter (exec (callF tbl n) n x) k fr st = some out

theorem LX.done {x : ACode} {fr : List AV} {st : St} {e : Ex} {fr' : List AV} {st' : St} (h : XC tbl x fr st (e, fr', st')) (he : e ≠ .normal) : LX tbl x fr st (e, fr', st') := by
  obtain ⟨n, hn⟩ := h
  refine ⟨n, 1, ?_⟩
  simp only [iter, hn]
  cases e with
  | normal => exact absurd rfl he
  | exit id => rfl
  | ret => rfl
theorem LX.step {x : ACode} {fr fr1 : List AV} {st st1 : St} {out : Out} (h : XC tbl x fr st (.normal, fr1, st1)) (h' : LX tbl x fr1 st1 out) : LX tbl x fr st out := by
  obtain ⟨n, hn⟩ := h
  obtain ⟨m, k, hm⟩ := h'
  refine ⟨max n m, k + 1, ?_⟩
  have h1 := exec_le (callF_le (tbl := tbl) (Nat.le_max_left n m)) (Nat.le_max_left n m) hn
  simp only [iter, h1]
  exact iter_le (fun _ _ _ hb => exec_le (callF_le (Nat.le_max_right n m)) (Nat.le_max_right n m) hb) (Nat.le_refl k) hm
theorem XC.loop {x : ACode} {fr : List AV} {st : St} {out : Out} (h : LX tbl x fr st out) : XC tbl (.loop x) fr st out := by
  obtain ⟨n, k, h⟩ := h
  refine ⟨max n k, ?_⟩
  simp only [exec]
  exact iter_le (fun _ _ _ hb => exec_le (callF_le (Nat.le_max_left n k)) (Nat.le_max_left n k) hb) (Nat.le_max_right n k) h
theorem XC.seq {a b : ACode} {fr fr1 : List AV} {st st1 : St} {out : Out} (h : XC tbl a fr st (.normal, fr1, st1)) (h' : XC tbl b fr1 st1 out) : XC tbl (.seq a b) fr st out := by
  obtain ⟨n, hn⟩ := h
  obtain ⟨m, hm⟩ := h'
  refine ⟨max n m, ?_⟩
  rw [exec_seqK, exec_le (callF_le (Nat.le_max_left n m)) (Nat.le_max_left n m) hn, seqK_normal]
  exact exec_le (callF_le (Nat.le_max_right n m)) (Nat.le_max_right n m) hm
theorem XC.seq_out {a b : ACode} {fr fr1 : List AV} {st st1 : St} {e : Ex} (h : XC tbl a fr st (e, fr1, st1)) (he : e ≠ .normal) : XC tbl (.seq a b) fr st (e, fr1, st1) := by
  obtain ⟨n, hn⟩ := h
  refine ⟨n, ?_⟩
  rw [exec_seqK, hn]
  cases e with
  | normal => exact absurd rfl he
  | exit id => rfl
  | ret => rfl
theorem XC.blk {id : Nat} {a : ACode} {fr fr1 : List AV} {st st1 : St} {e : Ex} (h : XC tbl a fr st (e, fr1, st1)) : XC tbl (.blk id a) fr st (if e = .exit id then .normal else e, fr1, st1) := by
  obtain ⟨n, hn⟩ := h
  refine ⟨n, ?_⟩
  simp only [exec, hn]
  cases e with
  | normal => rfl
  | exit id' =>
    by_cases hid : id' = id
    · subst hid; simp
    · simp [hid]
  | ret => rfl
theorem XC.skip {fr : List AV} {st : St} : XC tbl .skip fr st (.normal, fr, st) := ⟨0, rfl⟩
theorem XC.exit {id : Nat} {fr : List AV} {st : St} : XC tbl (.exit id) fr st (.exit id, fr, st) := ⟨0, rfl⟩
theorem XC.ret {fr : List AV} {st : St} : XC tbl .ret fr st (.ret, fr, st) := ⟨0, rfl⟩

theorem XC.of {x : ACode} {fr : List AV} {st : St} {out : Out} (h : ∃ n0, ∀ n, n0 ≤ n → exec (callF tbl n) n x fr st = some out) : XC tbl x fr st out :=
  let ⟨n, hn⟩ := h; ⟨n, hn n (Nat.le_refl n)⟩
/-- a test that goes on as one of its branches -/
theorem XC.goes {x a : ACode} {fr fr1 : List AV} {st st1 : St} {out : Out} (h : ∃ n0, ∀ n, n0 ≤ n → exec (callF tbl n) n x fr st = exec (callF tbl n) n a fr1 st1) (h' : XC tbl a fr1 st1 out) : XC tbl x fr st out := by
  obtain ⟨n, hn⟩ := h
  obtain ⟨m, hm⟩ := h'.ge
  exact ⟨max n m, by rw [hn _ (Nat.le_max_left n m)]; exact hm _ (Nat.le_max_right n m)⟩

/-- a function's answer, out of its body's -/
theorem Ev.of_body {f : Nat} {fn : AFn} {as : List AV} {st : St} {e : Ex} {fr' : List AV} {st' : St} {r : AV × St} (htb : tbl f = some fn) (he : fn.ext = none) (hl : as.length = fn.np)
    (h : XC tbl fn.code (as ++ List.replicate (fn.nv - fn.np) .undef) st (e, fr', st')) (hr : finK fn.results (some (e, fr', st')) = some r) : Ev tbl f as st r.1 r.2 := by
  obtain ⟨n, hn⟩ := h
  refine ⟨n + 1, ?_⟩
  simp only [callF, htb, he]
  rw [run_finK _ _ _ _ _ hl, hn, hr]
theorem Ev.of_ext {f : Nat} {fn : AFn} {as : List AV} {st : St} {e : List AV → St → Option (AV × St)} {r : AV × St} (htb : tbl f = some fn) (he : fn.ext = some e) (h : e as st = some r) : Ev tbl f as st r.1 r.2 :=
  ⟨1, by simp only [callF, htb, he]; exact h⟩
end
end Go.Cb
