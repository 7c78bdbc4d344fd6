/-
  THE ABSTRACT MACHINE, part 28: running told as a chain, for reckoning with unknowns.
-/
import Derived.Test.YtkfbiiedabbgfaaDoorXAm22
set_option maxRecDepth 4000
set_option linter.unusedSimpArgs false
namespace Go.Cb
open Classical

/-- an equation that is no mere unfolding to the simplifier -/
theorem spine {α : Sort _} {a b : α} (h : a = b) : a = b := by
  cases h
  rfl

/-- bind, of which only the head is reckoned -/
def obind {α β : Type} (x : Option α) (f : α → Option β) : Option β := match x with
  | some a => f a
  | none => none
theorem obind_some {α β : Type} (a : α) (f : α → Option β) : obind (some a) f = f a := spine rfl
theorem obind_congr {α β : Type} {x x' : Option α} {f : α → Option β} (h : x = x') : obind x f = obind x' f := by rw [h]

/-- the value of an operation that only reckons -/
def p1 (x : Option (AV × AV × St)) : Option AV := match x with
  | some (r, _, _) => some r
  | none => none
theorem p1_some (r b : AV) (st : St) : p1 (some (r, b, st)) = some r := spine rfl
/-- the value and the store -/
def p2 (x : Option (AV × AV × St)) : Option (AV × St) := match x with
  | some (r, _, st) => some (r, st)
  | none => none
theorem p2_some (r b : AV) (st : St) : p2 (some (r, b, st)) = some (r, st) := spine rfl

/-- a guarded value -/
def gv (x : AV) (want : Bool) (e : Option AV) : Option AV := match x with
  | .bool b => if b == want then e else some (.tuple [])
  | .tuple [] => some (.tuple [])
  | _ => none
def gv2 (x : AV) (want : Bool) (st : St) (e : Option (AV × St)) : Option (AV × St) := match x with
  | .bool b => if b == want then e else some (.tuple [], st)
  | .tuple [] => some (.tuple [], st)
  | _ => none
theorem gv_congr {x : AV} {want : Bool} {e : Option AV} {x' : AV} (h : x = x') : gv x want e = gv x' want e := by rw [h]
theorem gv_yes (b : Bool) (e : Option AV) : gv (.bool b) b e = e := by simp [gv]
theorem gv_no (b : Bool) (e : Option AV) : gv (.bool (!b)) b e = some (.tuple []) := by cases b <;> rfl
theorem gv_none (want : Bool) (e : Option AV) : gv (.tuple []) want e = some (.tuple []) := spine rfl

theorem gv_tt (e : Option AV) : gv (.bool true) true e = e := spine rfl
theorem gv_tf (e : Option AV) : gv (.bool true) false e = some (.tuple []) := spine rfl
theorem gv_ff (e : Option AV) : gv (.bool false) false e = e := spine rfl
theorem gv_ft (e : Option AV) : gv (.bool false) true e = some (.tuple []) := spine rfl
theorem gv2_tt (st : St) (e : Option (AV × St)) : gv2 (.bool true) true st e = e := spine rfl
theorem gv2_tf (st : St) (e : Option (AV × St)) : gv2 (.bool true) false st e = some (.tuple [], st) := spine rfl
theorem gv2_ff (st : St) (e : Option (AV × St)) : gv2 (.bool false) false st e = e := spine rfl
theorem gv2_ft (st : St) (e : Option (AV × St)) : gv2 (.bool false) true st e = some (.tuple [], st) := spine rfl
theorem gv2_none (want : Bool) (st : St) (e : Option (AV × St)) : gv2 (.tuple []) want st e = some (.tuple [], st) := spine rfl
theorem gv2_congr {x : AV} {want : Bool} {st : St} {e : Option (AV × St)} {x' : AV} (h : x = x') : gv2 x want st e = gv2 x' want st e := by rw [h]

def anySteals (xs : List Opd) : Bool := xs.any Opd.steals

theorem spend_noSteal : ∀ {xs : List Opd} {σ : Sig}, anySteals xs = false → spendAll xs σ = σ
  | [], _, _ => rfl
  | x :: xs, σ, h => by
    simp only [anySteals, List.any_cons, Bool.or_eq_false_iff] at h
    have e : x.spend σ = σ := by cases x <;> simp_all [Opd.spend, Opd.steals]
    rw [spendAll, e]
    exact spend_noSteal (xs := xs) h.2

def goK (call : CallT) {α : Type} (o : AOper) (σ : Sig) (k : Sig → Option α) : Option α :=
  match o.kind.setSt || o.kind.alters || anySteals o.args with
  | false => obind (p1 (sem o.kind call (o.args.map (·.read σ)) (boxOf' o.box σ) σ.st)) fun r => k (o.dst.put r σ)
  | true => match o.kind.alters || anySteals o.args with
    | false => obind (p2 (sem o.kind call (o.args.map (·.read σ)) (boxOf' o.box σ) σ.st)) fun r => k (o.dst.put r.1 { σ with st := r.2 })
    | true => obind (sem o.kind call (o.args.map (·.read σ)) (boxOf' o.box σ) σ.st) fun r =>
      let σ := spendAll o.args σ
      match o.box with
      | some i => k (o.dst.put r.1 { σ with fr := σ.fr.set i r.2.1, st := r.2.2 })
      | none => k (o.dst.put r.1 { σ with st := r.2.2 })
where boxOf' (b : Option Nat) (σ : Sig) : AV := match b with | some i => σ.fr.getD i .undef | none => .undef

def stepK (call : CallT) {α : Type} (o : AOper) (σ : Sig) (k : Sig → Option α) : Option α :=
  match o.guard with
  | none => goK call o σ k
  | some (x, want) => match o.kind.setSt || o.kind.alters || anySteals o.args with
    | false => obind (gv (x.read σ) want (p1 (sem o.kind call (o.args.map (·.read σ)) (goK.boxOf' o.box σ) σ.st))) fun r => k (o.dst.put r σ)
    | true => match o.kind.alters || anySteals o.args with
      | false => obind (gv2 (x.read σ) want σ.st (p2 (sem o.kind call (o.args.map (·.read σ)) (goK.boxOf' o.box σ) σ.st))) fun r => k (o.dst.put r.1 { σ with st := r.2 })
      | true => match x.read σ with
        | .bool b => if b == want then goK call o σ k else k (o.dst.put (.tuple []) σ)
        | .tuple [] => k (o.dst.put (.tuple []) σ)
        | _ => none

def runK (call : CallT) {α : Type} : List AOper → Sig → (Sig → Option α) → Option α
  | [], σ, k => k σ
  | o :: os, σ, k => stepK call o σ fun σ => runK call os σ k

theorem set_getD' (fr : List AV) (i : Nat) : fr.set i (fr.getD i .undef) = fr := by
  apply List.ext_getElem?
  intro j
  rw [List.getElem?_set]
  by_cases e : i = j
  · subst e
    rw [if_pos rfl]
    split
    · rename_i h; simp [h]
    · rename_i h; rw [List.getElem?_eq_none (by omega)]
  · rw [if_neg e]

theorem goK_eq {call : CallT} {α : Type} {o : AOper} {σ : Sig} {k : Sig → Option α} : goK call o σ k = obind (goOp call o σ) k := by
  have hb : goK.boxOf' o.box σ = (match o.box with | some i => σ.fr.getD i .undef | none => .undef) := rfl
  unfold goK
  rw [goOp_eq, hb]
  split
  · rename_i hp
    simp only [Bool.or_eq_false_iff] at hp
    obtain ⟨⟨h1, h2⟩, h3⟩ := hp
    cases hs : sem o.kind call (o.args.map (·.read σ)) (match o.box with | some i => σ.fr.getD i .undef | none => .undef) σ.st with
    | none => rfl
    | some x =>
      obtain ⟨r, b', st'⟩ := x
      have e1 := sem_st h1 hs
      have e2 := sem_bx h2 hs
      subst e1
      simp only [p1, obind_some, spend_noSteal h3]
      cases hbx : o.box with
      | none => rfl
      | some i =>
        simp only [hbx] at e2
        rw [e2]
        simp only [set_getD', obind_some]
  · rename_i hp
    split
    · rename_i hq
      simp only [Bool.or_eq_false_iff] at hq
      obtain ⟨h2, h3⟩ := hq
      cases hs : sem o.kind call (o.args.map (·.read σ)) (match o.box with | some i => σ.fr.getD i .undef | none => .undef) σ.st with
      | none => rfl
      | some x =>
        obtain ⟨r, b', st'⟩ := x
        have e2 := sem_bx h2 hs
        simp only [p2, obind_some, spend_noSteal h3]
        cases hbx : o.box with
        | none => rfl
        | some i =>
          simp only [hbx] at e2
          rw [e2]
          simp only [set_getD', obind_some]
    · cases hs : sem o.kind call (o.args.map (·.read σ)) (match o.box with | some i => σ.fr.getD i .undef | none => .undef) σ.st with
      | none => rfl
      | some x =>
        obtain ⟨r, b', st'⟩ := x
        simp only [obind_some]
        cases hbx : o.box with
        | none => rfl
        | some i => rfl

theorem gv_bind {α : Type} {x : AV} {want : Bool} {e : Option AV} {f : AV → Option α} : obind (gv x want e) f =
    (match x with | .bool b => if b == want then obind e f else f (.tuple []) | .tuple [] => f (.tuple []) | _ => none) := by
  unfold gv
  split
  · split <;> rfl
  · rfl
  · rfl

theorem gv2_bind {α : Type} {x : AV} {want : Bool} {st : St} {e : Option (AV × St)} {f : AV × St → Option α} : obind (gv2 x want st e) f =
    (match x with | .bool b => if b == want then obind e f else f (.tuple [], st) | .tuple [] => f (.tuple [], st) | _ => none) := by
  unfold gv2
  split
  · split <;> rfl
  · rfl
  · rfl

theorem stepK_eq {call : CallT} {α : Type} {o : AOper} {σ : Sig} {k : Sig → Option α} : stepK call o σ k = obind (stepOp call o σ) k := by
  unfold stepK stepOp
  cases hg : o.guard with
  | none => exact goK_eq
  | some xw =>
    obtain ⟨x, want⟩ := xw
    simp only
    split
    · rename_i hp
      have hgo : obind (p1 (sem o.kind call (o.args.map (·.read σ)) (goK.boxOf' o.box σ) σ.st)) (fun r => k (o.dst.put r σ)) = obind (goOp call o σ) k := by
        have := goK_eq (call := call) (o := o) (σ := σ) (k := k)
        unfold goK at this
        rw [hp] at this
        exact this
      rw [gv_bind]
      cases hx : x.read σ <;> try rfl
      · dsimp only
        split
        · exact hgo
        · rfl
      · rename_i vs
        cases vs <;> rfl
    · rename_i hp
      split
      · rename_i hq
        have hgo : obind (p2 (sem o.kind call (o.args.map (·.read σ)) (goK.boxOf' o.box σ) σ.st)) (fun r => k (o.dst.put r.1 { σ with st := r.2 })) = obind (goOp call o σ) k := by
          have := goK_eq (call := call) (o := o) (σ := σ) (k := k)
          unfold goK at this
          rw [hp, hq] at this
          exact this
        rw [gv2_bind]
        cases hx : x.read σ <;> try rfl
        · dsimp only
          split
          · exact hgo
          · rfl
        · rename_i vs
          cases vs <;> rfl
      · cases hx : x.read σ <;> try rfl
        · dsimp only
          split
          · exact goK_eq
          · rfl
        · rename_i vs
          cases vs <;> rfl

theorem runK_eq {call : CallT} {α : Type} {k : Sig → Option α} : ∀ {ops : List AOper} {σ : Sig}, runK call ops σ k = obind (runOps call ops σ) k
  | [], σ => rfl
  | o :: os, σ => by
    simp only [runK, runOps, stepK_eq]
    cases hs : stepOp call o σ with
    | none => rfl
    | some σ1 => exact runK_eq

def br (c : AV) (a b : Option Out) : Option Out := match c with
  | .bool true => a
  | .bool false => b
  | _ => none
theorem br_true (a b : Option Out) : br (.bool true) a b = a := spine rfl
theorem br_false (a b : Option Out) : br (.bool false) a b = b := spine rfl
theorem br_congr {c c' : AV} {a b : Option Out} (h : c = c') : br c a b = br c' a b := by rw [h]

theorem exec_reg (call : CallT) (n : Nat) (kill : List Nat) (ps : List AOper) (fr : List AV) (st : St) :
    exec call n (.reg kill ps) fr st = runK call ps ⟨killAll kill fr, fun _ => .undef, st⟩ fun σ => some (.normal, σ.fr, σ.st) := by
  rw [runK_eq]
  simp only [exec, fL_eq]
  cases runOps call ps ⟨killAll kill fr, fun _ => .undef, st⟩ <;> rfl
theorem exec_test (call : CallT) (n : Nat) (kill : List Nat) (ps : List AOper) (c : Opd) (a b : ACode) (fr : List AV) (st : St) :
    exec call n (.test kill ps c a b) fr st = runK call ps ⟨killAll kill fr, fun _ => .undef, st⟩ fun σ => br (c.read σ) (exec call n a σ.fr σ.st) (exec call n b σ.fr σ.st) := by
  rw [runK_eq]
  simp only [exec, fL_eq]
  cases runOps call ps ⟨killAll kill fr, fun _ => .undef, st⟩ with
  | none => rfl
  | some σ =>
    simp only [obind_some]
    generalize c.read σ = y
    cases y <;> rfl

/-- the address of a private box -/
def locOf (i : Nat) (x : AV) : AV := match x with
  | .box _ => .loc i 0
  | _ => .undef

/-- what comes behind code that ends -/
def seqK (x : Option Out) (f : List AV → St → Option Out) : Option Out := match x with
  | some (.normal, fr, st) => f fr st
  | r => r
theorem seqK_normal (fr : List AV) (st : St) (f : List AV → St → Option Out) : seqK (some (.normal, fr, st)) f = f fr st := spine rfl
theorem seqK_exit (id : Nat) (fr : List AV) (st : St) (f : List AV → St → Option Out) : seqK (some (.exit id, fr, st)) f = some (.exit id, fr, st) := spine rfl
theorem seqK_ret (fr : List AV) (st : St) (f : List AV → St → Option Out) : seqK (some (.ret, fr, st)) f = some (.ret, fr, st) := spine rfl
theorem seqK_congr {x x' : Option Out} {f : List AV → St → Option Out} (h : x = x') : seqK x f = seqK x' f := by rw [h]
theorem exec_seqK (call : CallT) (n : Nat) (a b : ACode) (fr : List AV) (st : St) : exec call n (.seq a b) fr st = seqK (exec call n a fr st) (exec call n b) := by
  simp only [exec, seqK]
  split <;> rename_i h <;> simp only [h]

/-- the results, out of how the body ended -/
def finK (rs : List ResK) (x : Option Out) : Option (AV × St) := match x with
  | some (.exit _, _, _) => none
  | some (_, fr, st) => match getAll rs fr with
    | some [v] => some (v, st)
    | some vs => some (.tuple vs, st)
    | none => none
  | none => none
theorem finK_congr {rs : List ResK} {x x' : Option Out} (h : x = x') : finK rs x = finK rs x' := by rw [h]
theorem run_finK (fn : AFn) (call : CallT) (n : Nat) (args : List AV) (st : St) (h : args.length = fn.np) :
    fn.run call n args st = finK fn.results (exec call n fn.code (args ++ List.replicate (fn.nv - fn.np) .undef) st) := by
  unfold AFn.run finK
  rw [if_pos h]
  cases exec call n fn.code (args ++ List.replicate (fn.nv - fn.np) .undef) st with
  | none => rfl
  | some x =>
    obtain ⟨e, fr, st'⟩ := x
    cases e <;> dsimp only <;> cases getAll fn.results fr with
    | none => rfl
    | some vs =>
      match vs with
      | [] => rfl
      | [v] => rfl
      | _ :: _ :: _ => rfl
theorem finK_ret (rs : List ResK) (fr : List AV) (st : St) : finK rs (some (.ret, fr, st)) = (match getAll rs fr with | some [v] => some (v, st) | some vs => some (.tuple vs, st) | none => none) := spine rfl
theorem finK_normal (rs : List ResK) (fr : List AV) (st : St) : finK rs (some (.normal, fr, st)) = (match getAll rs fr with | some [v] => some (v, st) | some vs => some (.tuple vs, st) | none => none) := spine rfl
theorem exec_ret (call : CallT) (n : Nat) (fr : List AV) (st : St) : exec call n .ret fr st = some (.ret, fr, st) := by simp only [exec]
theorem exec_exit (call : CallT) (n id : Nat) (fr : List AV) (st : St) : exec call n (.exit id) fr st = some (.exit id, fr, st) := by simp only [exec]
theorem exec_skip (call : CallT) (n : Nat) (fr : List AV) (st : St) : exec call n .skip fr st = some (.normal, fr, st) := by simp only [exec]
end Go.Cb
