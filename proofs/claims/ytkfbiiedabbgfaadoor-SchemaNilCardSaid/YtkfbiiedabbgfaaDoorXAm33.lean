/-
  THE ABSTRACT MACHINE, part 33: with enough fuel it comes to something of that sort.
-/
import Derived.Test.YtkfbiiedabbgfaaDoorXAm32
set_option maxRecDepth 4000
set_option linter.unusedVariables false
namespace Go.Cb
open Classical

/-- with enough fuel it comes to something of that sort -/
def WC {α : Type} (c : Nat → Option α) (Q : α → Prop) : Prop := ∃ n0 a, (∀ n, n0 ≤ n → c n = some a) ∧ Q a
/-- a call comes to something of that sort -/
def EvQ (tbl : Nat → Option AFn) (f : Nat) (as : List AV) (st : St) (Q : AV → St → Prop) : Prop := ∃ r st', Ev tbl f as st r st' ∧ Q r st'

theorem WC.ret {α : Type} {a : α} {Q : α → Prop} (h : Q a) : WC (fun _ => some a) Q := ⟨0, a, fun _ _ => rfl, h⟩
theorem WC.mono {α : Type} {c : Nat → Option α} {P Q : α → Prop} (h : WC c P) (hq : ∀ a, P a → Q a) : WC c Q :=
  let ⟨n, a, ha, hp⟩ := h; ⟨n, a, ha, hq a hp⟩
theorem WC.obind {α β : Type} {c : Nat → Option α} {k : Nat → α → Option β} {P : α → Prop} {Q : β → Prop} (h : WC c P) (hk : ∀ a, P a → WC (fun n => k n a) Q) : WC (fun n => Go.Cb.obind (c n) (k n)) Q := by
  obtain ⟨n, a, ha, hp⟩ := h
  obtain ⟨m, b, hb, hq⟩ := hk a hp
  refine ⟨max n m, b, fun j hj => ?_, hq⟩
  show Go.Cb.obind (c j) (k j) = some b
  rw [ha j (by omega), obind_some]
  exact hb j (Nat.le_trans (Nat.le_max_right n m) hj)
theorem EvQ.mono {tbl : Nat → Option AFn} {f : Nat} {as : List AV} {st : St} {P Q : AV → St → Prop} (h : EvQ tbl f as st P) (hq : ∀ r st', P r st' → Q r st') : EvQ tbl f as st Q :=
  let ⟨r, st', he, hp⟩ := h; ⟨r, st', he, hq r st' hp⟩

section
variable {tbl : Nat → Option AFn}
theorem WC.call {β : Type} {f : Nat} {as as' : List AV} {bx : AV} {st : St} {k : Nat → AV × St → Option β} {P : AV → St → Prop} {Q : β → Prop}
    (h : EvQ tbl f as' st P) (hp : allPlain as = true) (hw : as.map AV.weak = as') (hk : ∀ r st', P r st' → WC (fun n => k n (r, st')) Q) : WC (fun n => Go.Cb.obind (p2 (semCall f (callF tbl n) as bx st)) (k n)) Q := by
  obtain ⟨r, st', he, hq⟩ := h
  obtain ⟨n0, h0⟩ := he.ge
  refine WC.obind (P := fun x => x = (r, st')) ⟨n0, (r, st'), fun n hn => ?_, rfl⟩ (fun a ha => ha ▸ hk r st' hq)
  simp only [semCall, hp, if_true, hw, h0 n hn, Option.map_some, p2_some]
theorem WC.callV {β : Type} {f : Nat} {first caps as as' : List AV} {bx : AV} {st : St} {k : Nat → AV × St → Option β} {P : AV → St → Prop} {Q : β → Prop}
    (h : EvQ tbl f as' st P) (hp : allPlain as = true) (hw : (first ++ as ++ caps).map AV.weak = as') (hk : ∀ r st', P r st' → WC (fun n => k n (r, st')) Q) : WC (fun n => Go.Cb.obind (p2 (semCallV (callF tbl n) (.func f first caps :: as) bx st)) (k n)) Q := by
  obtain ⟨r, st', he, hq⟩ := h
  obtain ⟨n0, h0⟩ := he.ge
  refine WC.obind (P := fun x => x = (r, st')) ⟨n0, (r, st'), fun n hn => ?_, rfl⟩ (fun a ha => ha ▸ hk r st' hq)
  simp only [semCallV, hp, if_true, hw, h0 n hn, Option.map_some, p2_some]

/-- what a block makes of how its code ended -/
def blkOut (id : Nat) (o : Out) : Out := match o with
  | (.exit id', fr, st) => if id' = id then (.normal, fr, st) else (.exit id', fr, st)
  | o => o
def blkK (id : Nat) (x : Option Out) : Option Out := match x with
  | some o => some (blkOut id o)
  | none => none
theorem blkK_some (id : Nat) (o : Out) : blkK id (some o) = some (blkOut id o) := spine rfl
theorem blkOut_normal (id : Nat) (fr : List AV) (st : St) : blkOut id (.normal, fr, st) = (.normal, fr, st) := spine rfl
theorem blkOut_ret (id : Nat) (fr : List AV) (st : St) : blkOut id (.ret, fr, st) = (.ret, fr, st) := spine rfl
theorem blkOut_exit (id id' : Nat) (fr : List AV) (st : St) : blkOut id (.exit id', fr, st) = if id' = id then (.normal, fr, st) else (.exit id', fr, st) := spine rfl
theorem blkK_congr {id : Nat} {x x' : Option Out} (h : x = x') : blkK id x = blkK id x' := by rw [h]
theorem exec_blkK (call : CallT) (n id : Nat) (a : ACode) (fr : List AV) (st : St) : exec call n (.blk id a) fr st = blkK id (exec call n a fr st) := by
  simp only [exec, blkK]
  cases exec call n a fr st with
  | none => rfl
  | some o =>
    obtain ⟨e, fr', st'⟩ := o
    cases e with
    | normal => rfl
    | ret => rfl
    | exit id' => by_cases h : id' = id <;> simp [blkOut, h]
theorem seqK_obind {α : Type} (x : Option α) (f : α → Option Out) (g : List AV → St → Option Out) : seqK (Go.Cb.obind x f) g = Go.Cb.obind x fun a => seqK (f a) g := by cases x <;> rfl
theorem blkK_obind {α : Type} (id : Nat) (x : Option α) (f : α → Option Out) : blkK id (Go.Cb.obind x f) = Go.Cb.obind x fun a => blkK id (f a) := by cases x <;> rfl
theorem finK_obind {α : Type} (rs : List ResK) (x : Option α) (f : α → Option Out) : finK rs (Go.Cb.obind x f) = Go.Cb.obind x fun a => finK rs (f a) := by cases x <;> rfl
theorem obind_obind {α β γ : Type} (x : Option α) (f : α → Option β) (g : β → Option γ) : Go.Cb.obind (Go.Cb.obind x f) g = Go.Cb.obind x fun a => Go.Cb.obind (f a) g := by cases x <;> rfl

theorem WC.seqK {c : Nat → Option Out} {g : Nat → List AV → St → Option Out} {P Q : Out → Prop} (h : WC c P) (hk : ∀ o, P o → WC (fun n => Go.Cb.seqK (some o) (g n)) Q) : WC (fun n => Go.Cb.seqK (c n) (g n)) Q := by
  obtain ⟨n, a, ha, hp⟩ := h
  obtain ⟨m, b, hb, hq⟩ := hk a hp
  exact ⟨max n m, b, fun j hj => by dsimp only; rw [ha j (by omega)]; exact hb j (by omega), hq⟩
theorem WC.blkK {id : Nat} {c : Nat → Option Out} {Q : Out → Prop} (h : WC c (fun o => Q (blkOut id o))) : WC (fun n => Go.Cb.blkK id (c n)) Q := by
  obtain ⟨n, a, ha, hp⟩ := h
  exact ⟨n, _, fun j hj => by dsimp only; rw [ha j hj, blkK_some], hp⟩
theorem WC.finK {rs : List ResK} {c : Nat → Option Out} {P : Out → Prop} {Q : AV × St → Prop} (h : WC c P) (hk : ∀ o, P o → WC (fun n => Go.Cb.finK rs (some o)) Q) : WC (fun n => Go.Cb.finK rs (c n)) Q := by
  obtain ⟨n, a, ha, hp⟩ := h
  obtain ⟨m, b, hb, hq⟩ := hk a hp
  exact ⟨max n m, b, fun j hj => by dsimp only; rw [ha j (by omega)]; exact hb j (by omega), hq⟩

theorem WC.of_xc {x : ACode} {fr : List AV} {st : St} {out : Out} {Q : Out → Prop} (h : XC tbl x fr st out) (hq : Q out) : WC (fun n => exec (callF tbl n) n x fr st) Q := by
  obtain ⟨n, hn⟩ := h.ge
  exact ⟨n, out, hn, hq⟩
theorem WC.xc {x : ACode} {fr : List AV} {st : St} {Q : Out → Prop} (h : WC (fun n => exec (callF tbl n) n x fr st) Q) : ∃ out, XC tbl x fr st out ∧ Q out := by
  obtain ⟨n, a, ha, hq⟩ := h
  exact ⟨a, ⟨n, ha n (Nat.le_refl n)⟩, hq⟩

/-- a loop, by what holds ahead of each round, and a number that falls -/
theorem WC.loop {x : ACode} {Q : Out → Prop} (I : Nat → List AV → St → Prop) {m : Nat} {fr : List AV} {st : St} (h0 : I m fr st)
    (hI : ∀ m fr st, I m fr st → WC (fun n => exec (callF tbl n) n x fr st) (fun o => (∃ m' fr' st', o = (.normal, fr', st') ∧ m' < m ∧ I m' fr' st') ∨ (o.1 ≠ .normal ∧ Q o))) :
    WC (fun n => exec (callF tbl n) n (.loop x) fr st) Q := by
  have key : ∀ m fr st, I m fr st → ∃ out, LX tbl x fr st out ∧ Q out := by
    intro m
    induction m using Nat.strongRecOn with
    | ind m ih =>
      intro fr st h
      obtain ⟨out, hx, hc⟩ := (hI m fr st h).xc
      rcases hc with ⟨m', fr', st', rfl, hlt, hi⟩ | ⟨hne, hq⟩
      · obtain ⟨out, hl, hq⟩ := ih m' hlt fr' st' hi
        exact ⟨out, LX.step hx hl, hq⟩
      · obtain ⟨e, fr', st'⟩ := out
        exact ⟨_, LX.done hx hne, hq⟩
  obtain ⟨out, hl, hq⟩ := key m fr st h0
  exact WC.of_xc (XC.loop hl) hq

/-- a function's answer -/
theorem EvQ.of_body {f : Nat} {fn : AFn} {as : List AV} {st : St} {Q : AV → St → Prop} (htb : tbl f = some fn) (he : fn.ext = none) (hl : as.length = fn.np)
    (h : WC (fun n => Go.Cb.finK fn.results (exec (callF tbl n) n fn.code (as ++ List.replicate (fn.nv - fn.np) .undef) st)) (fun r => Q r.1 r.2)) : EvQ tbl f as st Q := by
  obtain ⟨n, a, ha, hq⟩ := h
  refine ⟨a.1, a.2, ⟨n + 1, ?_⟩, hq⟩
  simp only [callF, htb, he]
  rw [run_finK _ _ _ _ _ hl]
  exact ha n (Nat.le_refl n)
theorem EvQ.of_ext {f : Nat} {fn : AFn} {as : List AV} {st : St} {e : List AV → St → Option (AV × St)} {r : AV × St} {Q : AV → St → Prop} (htb : tbl f = some fn) (he : fn.ext = some e) (h : e as st = some r) (hq : Q r.1 r.2) : EvQ tbl f as st Q :=
  ⟨_, _, Ev.of_ext htb he h, hq⟩
theorem EvQ.of_ev {f : Nat} {as : List AV} {st : St} {r : AV} {st' : St} {Q : AV → St → Prop} (h : Ev tbl f as st r st') (hq : Q r st') : EvQ tbl f as st Q := ⟨r, st', h, hq⟩
theorem EvQ.to_ev {f : Nat} {as : List AV} {st : St} {r : AV} {st' : St} (h : EvQ tbl f as st (fun a b => a = r ∧ b = st')) : Ev tbl f as st r st' := by
  obtain ⟨a, b, he, rfl, rfl⟩ := h
  exact he
end
end Go.Cb
