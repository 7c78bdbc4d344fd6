import Derived.Test.YthnliekianmljaaGreatDoorXAms2
import Derived.Test.YthnliekianmljaaGreatDoorXAms1
/-
  THE ABSTRACT MACHINE, part 29: slices.Clone.
-/
set_option maxRecDepth 4000
set_option linter.unusedSimpArgs false
namespace Go.Cb
open Classical

section
variable {c : Cx} {g : Gh} {w : World} {pr : Nat → Option Pl} {bx : Nat → Nat} {σ : Sig} {a : Act} {o : Oper}

theorem slE_ok (fx : Fx c) (h : S c g w pr bx σ a) {t e : TypeId} {i : TypeInfo} {d : Dst} (ho : o.op = .buildSlice t 0 #[]) (hu : c.P.underlying t = some (.slice e)) (hi : c.P.info? e = some i) (hd : dstOK c o.dst d = true)
    {next : Act → World → Prop} {Q : Exit → Act → World → Prop} (hnext : Post c g w a (d.put (.list true []) σ) next) : o.wp c.P a w next Q := by
  have hrun : (execOp a.eval o).run c.P w = .ok (.value (.slice (some (ad w.heap.size 0)) 0 0)) (w.alloc (.cells #[] e)) := by
    have e0 : (Array.map (fun _ : Nat => (default : Value)) (Array.range 0)) = #[] := by apply Array.ext'; simp
    simp [execOp, ho, Instr.buildSlice, run_underlying hu, sizeOf, typeInfo, hi, Instr.fill, newRow, e0]
  unfold Oper.wp
  rw [hrun]
  refine hnext _ _ g pr bx (defers_put _ _ _) (put_ok fx (h.alloc _ _) hd (mine := No) (r := .list true []) ?_ fun _ x => x.elim) (Tr.alloc _ h.st.cli _)
  refine (show ValOK g _ No (.list true []) _ from ⟨?_, fun _ _ => .inl ⟨_, _, rfl⟩, fun _ e => (by cases e)⟩)
  simp only [Rel]
  exact ⟨_, 0, 0, rfl, rfl, Nat.le_refl _, fun _ => rfl, fun h => absurd rfl h⟩

/-- is a slice nil? -/
theorem nil_ok (fx : Fx c) (h : S c g w pr bx σ a) {t t' e : TypeId} {x : Operand} {d : Dst} {ad0 : Option Addr} {n cap : Nat} (ho : o.op = .binOp .eql t x (.const (.slice none 0 0)) t') (hu : c.P.underlying t = some (.slice e))
    (hx : a.eval x = .slice ad0 n cap) (hd : dstOK c o.dst d = true) {next : Act → World → Prop} {Q : Exit → Act → World → Prop} (hnext : Post c g w a (d.put (.bool ad0.isNone) σ) next) : o.wp c.P a w next Q := by
  have hrun : (execOp a.eval o).run c.P w = .ok (.value (.bool ad0.isNone)) w := by
    have hg : ∀ v : Value, (eqGuard .eql t x (.const (.slice none 0 0)) (.slice ad0 n cap) (.slice none 0 0)).run c.P w = .ok () w := fun _ => rfl
    have hy : a.eval (.const (.slice none 0 0)) = .slice none 0 0 := rfl
    have heq : (Op.equal t (.slice ad0 n cap) (.slice none 0 0)).run c.P w = .ok ad0.isNone w := by
      rw [equal_eq, Op.equalIn, Sem.run_bind, run_underlying hu, Result.andThen_ok]
      cases ad0 <;> rfl
    simp only [execOp, ho, hx, hy, hg (.bool true), binOp, Sem.run_bind, heq, Result.andThen_ok, Sem.run_pure]
  exact pure_op fx h hd (r := .bool ad0.isNone) hrun (show ValOK g w No (.bool ad0.isNone) (.bool ad0.isNone) from ValOK.mk' (by simp [Rel]) (by simp) (by simp)) hnext

/-- its types -/
def cloneB (P : Program) (t sz bytes : Nat) : Bool := match P.underlying t with
  | some (.slice e) => match P.info? e with
    | some ie => ie.size == sz && ie.bytes == bytes && decide (0 < bytes) && (match ie.zero with | some z => z.cells.size == sz | none => false)
    | none => false
  | _ => false

/-- how slices.Clone is written -/
structure CloneShape (P : Program) (fn : Func) (t sz bytes : Nat) where
  i0 : Nat
  i1 : Nat
  i2 : Nat
  i3 : Nat
  o0 : Oper
  o1 : Oper
  o2 : Oper
  o3 : Oper
  o4 : Oper
  o5 : Oper
  o6 : Oper
  o7 : Oper
  ty : TypeId
  body : fn.body = some (.seq (.region i0 #[o0] false) (.seq (.seq (.region i1 #[o1, o2] false) (.cond (.tmp 4) (.seq (.region i2 #[o3] false) .ret) .skip)) (.seq (.region i3 #[o4, o5, o6, o7] false) .ret)))
  nt : fn.ntmps = 8
  res : fn.results = #[.tmp 2]
  d0 : o0.dst = some 2 ∧ o0.op = .assign (.const (.slice none 0 0)) ∧ o0.guard = none
  d1 : o1.dst = some 3 ∧ o1.op = .move (.tmp 0) ∧ o1.guard = none
  d2 : o2.dst = some 4 ∧ o2.op = .binOp .eql t (.tmp 3) (.const (.slice none 0 0)) ty ∧ o2.guard = none
  d3 : o3.dst = some 2 ∧ o3.op = .assign (.const (.slice none 0 0)) ∧ o3.guard = none
  d4 : o4.dst = some 5 ∧ o4.op = .buildSlice t 0 #[] ∧ o4.guard = none
  d5 : o5.dst = some 6 ∧ o5.op = .move (.tmp 0) ∧ o5.guard = none
  d6 : o6.dst = some 7 ∧ o6.op = .call { callee := .builtin .append, args := #[.tmp 5, .tmp 6], argTypes := #[t, t] } ∧ o6.guard = none
  d7 : o7.dst = some 2 ∧ o7.op = .assign (.tmp 7) ∧ o7.guard = none
  tb : cloneB P t sz bytes = true

theorem cloneB_spec {P : Program} {t sz bytes : Nat} (h : cloneB P t sz bytes = true) : ∃ e ie z, P.underlying t = some (.slice e) ∧ P.info? e = some ie ∧ ie.zero = some z ∧ ie.size = sz ∧ ie.bytes = bytes ∧ z.cells.size = sz ∧ 0 < bytes := by
  unfold cloneB at h
  split at h
  case h_2 => cases h
  rename_i e hu
  split at h
  case h_2 => cases h
  rename_i ie hi
  simp only [Bool.and_eq_true, beq_iff_eq, decide_eq_true_eq] at h
  obtain ⟨⟨⟨h1, h2⟩, h3⟩, h4⟩ := h
  split at h4
  case h_2 => cases h4
  rename_i z hz
  exact ⟨e, ie, z, hu, hi, hz, h1, h2, by simpa using h4, h3⟩

theorem clone_ok {P : Program} {f t sz bytes : Nat} {fn : Func} (hf : P.funcs[f]? = some fn) (C : CloneShape P fn t sz bytes) : ExtOK P f (cloneX sz bytes) := by
  intro args st res st' h hweak g w vs hst hrel
  obtain ⟨e, ie, z, tu, ti, tz, tsz, tby, tzs, tb1⟩ := cloneB_spec C.tb
  unfold cloneX at h
  split at h
  case h_2 => cases h
  rename_i own xs
  split at h
  case isFalse => cases h
  rename_i hcond
  simp only [Bool.and_eq_true, decide_eq_true_eq] at hcond
  obtain ⟨hrows, hbytes⟩ := hcond
  simp only [Option.some.injEq, Prod.mk.injEq] at h
  obtain ⟨rfl, rfl⟩ := h
  simp only [RelL] at hrel
  obtain ⟨v, _, rfl, hv, rfl⟩ := hrel
  have hvs := hv
  simp only [Rel] at hvs
  obtain ⟨ad0, n, cap, rfl, rfl, hcap, hnil, hne⟩ := hvs
  let A : Nat → Prop := fun b => w.heap.size ≤ b ∨ g.sr b ≠ none
  let c : Cx := ⟨P, [0, 2], [], 8, [], A⟩
  have fx : Fx c := ⟨show ([0, 2] : List Nat).Nodup by decide, show ∀ s ∈ ([0, 2] : List Nat), s < 8 by decide⟩
  have hown : own = false := by
    have := hweak (.list own xs) (by simp)
    simpa [AV.weak] using this.symm
  subst hown
  refine calls_of_wp hf C.body ?_
  have hS : S c g w (fun _ => none) (fun _ => 0) ⟨[.list false xs, .undef], fun _ => .undef, st⟩ { tmps := #[Value.slice ad0 xs.length cap] ++ Array.replicate (fn.ntmps - 1) undef, defers := [] } := by
    refine ⟨⟨by simp [c, C.nt], rfl, fun i s hs => ?_, fun s _ => ValOK.undef, fun b p hb => (by cases hb), fun i cs hi => ?_⟩, hst, fun e he => (by cases he), fun b hb => .inl hb, fun b p hb => .inr (by rw [hb]; simp)⟩
    · match i, hs with
      | 0, hs =>
        simp only [c, List.getElem?_cons_zero, Option.some.injEq] at hs
        subst hs
        have hval : ValOK g w (fun b => (fun _ => none : Nat → Option Pl) b = some (.var 0)) (AV.list false xs).weak (.slice ad0 xs.length cap) := ValOK.of_weak hv
        have e0 : (#[Value.slice ad0 xs.length cap] ++ Array.replicate (fn.ntmps - 1) undef).getD 0 undef = .slice ad0 xs.length cap := by rw [C.nt]; rfl
        show VarOK g w (fun _ => none) (fun _ => 0) 0 (.list false xs) ((#[Value.slice ad0 xs.length cap] ++ Array.replicate (fn.ntmps - 1) undef).getD 0 undef)
        rw [e0]
        exact hval
      | 1, hs => exact VarOK.undef
      | i + 2, hs => simp [c] at hs
    · match i, hi with
      | 0, hi => simp at hi
      | 1, hi => simp at hi
      | i + 2, hi => simp at hi
  -- the end
  have fin : ∀ (x : AV) (a' : Act) (w' : World) (g' : Gh) (pr' : Nat → Option Pl) (bx' : Nat → Nat) (τ' : Nat → AV), a'.defers = [] → S c g' w' pr' bx' ⟨[x, .list true xs], τ', st⟩ a' → Tr c.A g w g' w' →
      bodyPost P fn (CallPost g w st (.list true xs)) .ret a' w' := by
    intro x a' w' g' pr' bx' τ' hd hS' ht
    refine ⟨hd, ?_⟩
    obtain ⟨us, hus, hul, hall⟩ := res_ok (c := c) hS' (rs := fn.results.toList) (ks := [.vs 1]) (vs := [.list true xs]) (by rw [C.res]; rfl) rfl
    refine ⟨_, results_run hus, _, g', rfl, hS'.st, ⟨ht.ext, ht.size, ht.env, fun b hb hs _ => ht.keep b hb hs fun hA => ?_⟩, ?_⟩
    · rcases hA with hA | hA
      · omega
      · exact hA hs
    · match us, hul, hall with
      | [u], _, hall =>
        refine (hall 0 (.list true xs) u rfl rfl).mono (Ext.refl _ _) fun b hb => ⟨?_, rfl, fun _ x => x⟩
        obtain ⟨p, hp⟩ := hb
        obtain ⟨q1, q2, q3⟩ := hS'.fr.prv b p hp
        exact ⟨q1, q2, q3⟩
  refine wp_seq (wp_region ?_)
  show wpOps P #[C.o0] _ [0] _ _
  rw [wpOps_cons]
  refine opAt rfl C.d0.2.2 (mv_ok (c := c) fx hS (.inr C.d0.2.1) (p := .c (.list true [])) (d := .v 1) rfl (by rw [C.d0.1]; rfl) fun a1 w1 g1 pr1 bx1 hd1 hS1 ht1 => ?_)
  show (Code.seq _ _).wp P _ a1 w1
  refine wp_seq (wp_seq (wp_region ?_))
  show wpOps P #[C.o1, C.o2] _ [0, 1] _ _
  rw [wpOps_cons]
  refine opAt rfl C.d1.2.2 (mv_ok (c := c) fx hS1 (.inl C.d1.2.1) (p := .v 0) (d := .t 3) rfl (by rw [C.d1.1]; rfl) fun a2 w2 g2 pr2 bx2 hd2 hS2 ht2 => ?_)
  rw [wpOps_cons]
  have hA2 := read_ok hS2 (x := .tmp 3) (p := .t 3) rfl
  have hr2 : Rel g2 w2 (.list false xs) (a2.eval (.tmp 3)) := ValOK.rel hA2
  have hr2' := hr2
  simp only [Rel] at hr2'
  obtain ⟨ad2, n2, cap2, hev2, hn2, hcap2, hnil2, hne2⟩ := hr2'
  refine opAt rfl C.d2.2.2 (nil_ok (c := c) fx hS2 C.d2.2.1 tu hev2 (d := .t 4) (by rw [C.d2.1]; rfl) fun a3 w3 g3 pr3 bx3 hd3 hS3 ht3 => ?_)
  show (Code.cond _ _ _).wp P _ a3 w3
  have ht03 := (ht1.trans ht2).trans ht3
  have hd03 : a3.defers = [] := hd3.trans (hd2.trans hd1)
  have hb := cond_ok hS3 (x := .tmp 4) (y := .t 4) rfl (b := ad2.isNone) rfl
  refine wp_cond hb ?_
  cases ad2 with
  | none =>
    have hx0 : xs = [] := by
      have := hnil2 rfl
      exact List.eq_nil_of_length_eq_zero (by omega)
    refine wp_seq (wp_region ?_)
    show wpOps P #[C.o3] _ [0] _ _
    rw [wpOps_cons]
    refine opAt rfl C.d3.2.2 (mv_ok (c := c) fx hS3 (.inr C.d3.2.1) (p := .c (.list true [])) (d := .v 1) rfl (by rw [C.d3.1]; rfl) fun a4 w4 g4 pr4 bx4 hd4 hS4 ht4 => ?_)
    show Code.ret.wp P _ a4 w4
    refine wp_ret ?_
    show bodyPost P fn _ .ret a4 w4
    subst hx0
    exact fin _ a4 w4 g4 pr4 bx4 _ (hd4.trans hd03) hS4 (ht03.trans ht4)
  | some ad3 =>
    refine wp_skip ?_
    show (Code.seq _ _).wp P _ a3 w3
    refine wp_seq (wp_region ?_)
    show wpOps P #[C.o4, C.o5, C.o6, C.o7] _ [0, 1, 2, 3] _ _
    rw [wpOps_cons]
    refine opAt rfl C.d4.2.2 (slE_ok (c := c) fx hS3 C.d4.2.1 tu ti (d := .t 5) (by rw [C.d4.1]; rfl) fun a4 w4 g4 pr4 bx4 hd4 hS4 ht4 => ?_)
    rw [wpOps_cons]
    refine opAt rfl C.d5.2.2 (mv_ok (c := c) fx hS4 (.inl C.d5.2.1) (p := .v 0) (d := .t 6) rfl (by rw [C.d5.1]; rfl) fun a5 w5 g5 pr5 bx5 hd5 hS5 ht5 => ?_)
    rw [wpOps_cons]
    refine opAt rfl C.d6.2.2 (app_ok (c := c) fx hS5 C.d6.2.1 rfl tu ti tz tsz tby tzs tb1 (p0 := .ts 5) (p1 := .t 6) (d := .t 7) rfl rfl (by rw [C.d6.1]; rfl) (by rw [C.d6.1]; rfl) (xs := []) (ys := xs) (own := false) rfl rfl rfl hrows (by simpa using hbytes) fun a6 w6 g6 pr6 bx6 hd6 hS6 ht6 => ?_)
    rw [wpOps_cons]
    refine opAt rfl C.d7.2.2 (mv_ok (c := c) fx hS6 (.inr C.d7.2.1) (p := .ts 7) (d := .v 1) rfl (by rw [C.d7.1]; rfl) fun a7 w7 g7 pr7 bx7 hd7 hS7 ht7 => ?_)
    show Code.ret.wp P _ a7 w7
    refine wp_ret ?_
    show bodyPost P fn _ .ret a7 w7
    exact fin _ a7 w7 g7 pr7 bx7 _ (hd7.trans (hd6.trans (hd5.trans (hd4.trans hd03)))) hS7 ((((ht03.trans ht4).trans ht5).trans ht6).trans ht7)
end
end Go.Cb
/-
  THE ABSTRACT MACHINE, part 30: from an abstract answer to the model's call.
-/
set_option maxRecDepth 4000
namespace Go.Cb
open Classical

/-- before the call: nothing is of the store, and all that is there stays -/
def gh0 (W : World) : Gh := { n := 0, m := fun _ => 0, cl := fun b _ => b < W.heap.size, sr := fun _ => none, cp := fun _ => 0 }

theorem srel0 (W : World) : SRel (gh0 W) W [] := ⟨rfl, fun o ob h => by simp at h, fun b p h => (by cases h), fun b f h => h⟩

/-- what a call leaves of the old world -/
structure Kept (W W' : World) : Prop where
  kept : W.keptBut W' (fun _ => False)
  fz : ∀ a, W'.frozen? a = W.frozen? a
  size : W.heap.size ≤ W'.heap.size
  old : ∀ b, b < W.heap.size → W'.heap[b]? = W.heap[b]?

theorem answer {P : Program} {gt : List (Nat × List AV)} {tbl : Nat → Option AFn} (hP : ProgOK P gt tbl) {n f : Nat} {args : List AV} {b : Bool} {st' : St} (h : callF tbl n f args [] = some (.bool b, st')) (hw : ∀ x ∈ args, x.weak = x)
    {W : World} {vs : List Value} (hg : Globs gt (gh0 W) W) (hr : RelL (gh0 W) W args vs) : Calls P f vs.toArray W (fun e W' => e = .returned (.bool b) ∧ Kept W W') := by
  refine ((callF_ok hP n f args [] _ _ h hw).2 (gh0 W) W vs (srel0 W) hg hr).mono fun e W' he => ?_
  obtain ⟨v, g', rfl, _, ht, hv⟩ := he
  have hv := hv.rel
  simp only [Rel] at hv
  subst hv
  have hold : ∀ b, b < W.heap.size → W'.heap[b]? = W.heap[b]? := fun b hb => (ht.keep b hb rfl fun x => x).1.1
  refine ⟨rfl, ⟨ht.env.os, ht.env.out, fun i hi => ?_⟩, ht.env.fz, ht.size, hold⟩
  rw [hold i hi]
  cases hq : W.heap[i]? with
  | none => simp
  | some o => cases o <;> simp
end Go.Cb
/-
  THE ABSTRACT MACHINE, part 28: running told as a chain, for reckoning with unknowns.
-/
set_option maxRecDepth 4000
set_option linter.unusedSimpArgs false
namespace Go.Cb
open Classical

/-- an equation that is no mere unfolding to the simplifier -/
theorem spine {α : Sort _} {a b : α} (h : a = b) : a = b := by
  cases h
  rfl

/-- bind, of which only the head is reckoned -/
def obind {α β : Type} (x : Option α) (f : α → Option β) : Option β := match x with
  | some a => f a
  | none => none
theorem obind_some {α β : Type} (a : α) (f : α → Option β) : obind (some a) f = f a := spine rfl
/-- the value of an operation that only reckons -/
def p1 (x : Option (AV × AV × St)) : Option AV := match x with
  | some (r, _, _) => some r
  | none => none
/-- the value and the store -/
def p2 (x : Option (AV × AV × St)) : Option (AV × St) := match x with
  | some (r, _, st) => some (r, st)
  | none => none
theorem p2_some (r b : AV) (st : St) : p2 (some (r, b, st)) = some (r, st) := spine rfl

/-- a guarded value -/
def gv (x : AV) (want : Bool) (e : Option AV) : Option AV := match x with
  | .bool b => if b == want then e else some (.tuple [])
  | .tuple [] => some (.tuple [])
  | _ => none
def gv2 (x : AV) (want : Bool) (st : St) (e : Option (AV × St)) : Option (AV × St) := match x with
  | .bool b => if b == want then e else some (.tuple [], st)
  | .tuple [] => some (.tuple [], st)
  | _ => none
def anySteals (xs : List Opd) : Bool := xs.any Opd.steals

theorem spend_noSteal : ∀ {xs : List Opd} {σ : Sig}, anySteals xs = false → spendAll xs σ = σ
  | [], _, _ => rfl
  | x :: xs, σ, h => by
    simp only [anySteals, List.any_cons, Bool.or_eq_false_iff] at h
    have e : x.spend σ = σ := by cases x <;> simp_all [Opd.spend, Opd.steals]
    rw [spendAll, e]
    exact spend_noSteal (xs := xs) h.2

def goK (call : CallT) {α : Type} (o : AOper) (σ : Sig) (k : Sig → Option α) : Option α :=
  match o.kind.setSt || o.kind.alters || anySteals o.args with
  | false => obind (p1 (sem o.kind call (o.args.map (·.read σ)) (boxOf' o.box σ) σ.st)) fun r => k (o.dst.put r σ)
  | true => match o.kind.alters || anySteals o.args with
    | false => obind (p2 (sem o.kind call (o.args.map (·.read σ)) (boxOf' o.box σ) σ.st)) fun r => k (o.dst.put r.1 { σ with st := r.2 })
    | true => obind (sem o.kind call (o.args.map (·.read σ)) (boxOf' o.box σ) σ.st) fun r =>
      let σ := spendAll o.args σ
      match o.box with
      | some i => k (o.dst.put r.1 { σ with fr := σ.fr.set i r.2.1, st := r.2.2 })
      | none => k (o.dst.put r.1 { σ with st := r.2.2 })
where boxOf' (b : Option Nat) (σ : Sig) : AV := match b with | some i => σ.fr.getD i .undef | none => .undef

def stepK (call : CallT) {α : Type} (o : AOper) (σ : Sig) (k : Sig → Option α) : Option α :=
  match o.guard with
  | none => goK call o σ k
  | some (x, want) => match o.kind.setSt || o.kind.alters || anySteals o.args with
    | false => obind (gv (x.read σ) want (p1 (sem o.kind call (o.args.map (·.read σ)) (goK.boxOf' o.box σ) σ.st))) fun r => k (o.dst.put r σ)
    | true => match o.kind.alters || anySteals o.args with
      | false => obind (gv2 (x.read σ) want σ.st (p2 (sem o.kind call (o.args.map (·.read σ)) (goK.boxOf' o.box σ) σ.st))) fun r => k (o.dst.put r.1 { σ with st := r.2 })
      | true => match x.read σ with
        | .bool b => if b == want then goK call o σ k else k (o.dst.put (.tuple []) σ)
        | .tuple [] => k (o.dst.put (.tuple []) σ)
        | _ => none

def runK (call : CallT) {α : Type} : List AOper → Sig → (Sig → Option α) → Option α
  | [], σ, k => k σ
  | o :: os, σ, k => stepK call o σ fun σ => runK call os σ k

theorem set_getD' (fr : List AV) (i : Nat) : fr.set i (fr.getD i .undef) = fr := by
  apply List.ext_getElem?
  intro j
  rw [List.getElem?_set]
  by_cases e : i = j
  · subst e
    rw [if_pos rfl]
    split
    · rename_i h; simp [h]
    · rename_i h; rw [List.getElem?_eq_none (by omega)]
  · rw [if_neg e]

theorem goK_eq {call : CallT} {α : Type} {o : AOper} {σ : Sig} {k : Sig → Option α} : goK call o σ k = obind (goOp call o σ) k := by
  have hb : goK.boxOf' o.box σ = (match o.box with | some i => σ.fr.getD i .undef | none => .undef) := rfl
  unfold goK
  rw [goOp_eq, hb]
  split
  · rename_i hp
    simp only [Bool.or_eq_false_iff] at hp
    obtain ⟨⟨h1, h2⟩, h3⟩ := hp
    cases hs : sem o.kind call (o.args.map (·.read σ)) (match o.box with | some i => σ.fr.getD i .undef | none => .undef) σ.st with
    | none => rfl
    | some x =>
      obtain ⟨r, b', st'⟩ := x
      have e1 := sem_st h1 hs
      have e2 := sem_bx h2 hs
      subst e1
      simp only [p1, obind_some, spend_noSteal h3]
      cases hbx : o.box with
      | none => rfl
      | some i =>
        simp only [hbx] at e2
        rw [e2]
        simp only [set_getD', obind_some]
  · rename_i hp
    split
    · rename_i hq
      simp only [Bool.or_eq_false_iff] at hq
      obtain ⟨h2, h3⟩ := hq
      cases hs : sem o.kind call (o.args.map (·.read σ)) (match o.box with | some i => σ.fr.getD i .undef | none => .undef) σ.st with
      | none => rfl
      | some x =>
        obtain ⟨r, b', st'⟩ := x
        have e2 := sem_bx h2 hs
        simp only [p2, obind_some, spend_noSteal h3]
        cases hbx : o.box with
        | none => rfl
        | some i =>
          simp only [hbx] at e2
          rw [e2]
          simp only [set_getD', obind_some]
    · cases hs : sem o.kind call (o.args.map (·.read σ)) (match o.box with | some i => σ.fr.getD i .undef | none => .undef) σ.st with
      | none => rfl
      | some x =>
        obtain ⟨r, b', st'⟩ := x
        simp only [obind_some]
        cases hbx : o.box with
        | none => rfl
        | some i => rfl

theorem gv_bind {α : Type} {x : AV} {want : Bool} {e : Option AV} {f : AV → Option α} : obind (gv x want e) f =
    (match x with | .bool b => if b == want then obind e f else f (.tuple []) | .tuple [] => f (.tuple []) | _ => none) := by
  unfold gv
  split
  · split <;> rfl
  · rfl
  · rfl

theorem gv2_bind {α : Type} {x : AV} {want : Bool} {st : St} {e : Option (AV × St)} {f : AV × St → Option α} : obind (gv2 x want st e) f =
    (match x with | .bool b => if b == want then obind e f else f (.tuple [], st) | .tuple [] => f (.tuple [], st) | _ => none) := by
  unfold gv2
  split
  · split <;> rfl
  · rfl
  · rfl

theorem stepK_eq {call : CallT} {α : Type} {o : AOper} {σ : Sig} {k : Sig → Option α} : stepK call o σ k = obind (stepOp call o σ) k := by
  unfold stepK stepOp
  cases hg : o.guard with
  | none => exact goK_eq
  | some xw =>
    obtain ⟨x, want⟩ := xw
    simp only
    split
    · rename_i hp
      have hgo : obind (p1 (sem o.kind call (o.args.map (·.read σ)) (goK.boxOf' o.box σ) σ.st)) (fun r => k (o.dst.put r σ)) = obind (goOp call o σ) k := by
        have := goK_eq (call := call) (o := o) (σ := σ) (k := k)
        unfold goK at this
        rw [hp] at this
        exact this
      rw [gv_bind]
      cases hx : x.read σ <;> try rfl
      · dsimp only
        split
        · exact hgo
        · rfl
      · rename_i vs
        cases vs <;> rfl
    · rename_i hp
      split
      · rename_i hq
        have hgo : obind (p2 (sem o.kind call (o.args.map (·.read σ)) (goK.boxOf' o.box σ) σ.st)) (fun r => k (o.dst.put r.1 { σ with st := r.2 })) = obind (goOp call o σ) k := by
          have := goK_eq (call := call) (o := o) (σ := σ) (k := k)
          unfold goK at this
          rw [hp, hq] at this
          exact this
        rw [gv2_bind]
        cases hx : x.read σ <;> try rfl
        · dsimp only
          split
          · exact hgo
          · rfl
        · rename_i vs
          cases vs <;> rfl
      · cases hx : x.read σ <;> try rfl
        · dsimp only
          split
          · exact goK_eq
          · rfl
        · rename_i vs
          cases vs <;> rfl

theorem runK_eq {call : CallT} {α : Type} {k : Sig → Option α} : ∀ {ops : List AOper} {σ : Sig}, runK call ops σ k = obind (runOps call ops σ) k
  | [], σ => rfl
  | o :: os, σ => by
    simp only [runK, runOps, stepK_eq]
    cases hs : stepOp call o σ with
    | none => rfl
    | some σ1 => exact runK_eq

def br (c : AV) (a b : Option Out) : Option Out := match c with
  | .bool true => a
  | .bool false => b
  | _ => none
theorem exec_reg (call : CallT) (n : Nat) (kill : List Nat) (ps : List AOper) (fr : List AV) (st : St) :
    exec call n (.reg kill ps) fr st = runK call ps ⟨killAll kill fr, fun _ => .undef, st⟩ fun σ => some (.normal, σ.fr, σ.st) := by
  rw [runK_eq]
  simp only [exec, fL_eq]
  cases runOps call ps ⟨killAll kill fr, fun _ => .undef, st⟩ <;> rfl
theorem exec_test (call : CallT) (n : Nat) (kill : List Nat) (ps : List AOper) (c : Opd) (a b : ACode) (fr : List AV) (st : St) :
    exec call n (.test kill ps c a b) fr st = runK call ps ⟨killAll kill fr, fun _ => .undef, st⟩ fun σ => br (c.read σ) (exec call n a σ.fr σ.st) (exec call n b σ.fr σ.st) := by
  rw [runK_eq]
  simp only [exec, fL_eq]
  cases runOps call ps ⟨killAll kill fr, fun _ => .undef, st⟩ with
  | none => rfl
  | some σ =>
    simp only [obind_some]
    generalize c.read σ = y
    cases y <;> rfl

/-- the address of a private box -/
def locOf (i : Nat) (x : AV) : AV := match x with
  | .box _ => .loc i 0
  | _ => .undef

/-- what comes behind code that ends -/
def seqK (x : Option Out) (f : List AV → St → Option Out) : Option Out := match x with
  | some (.normal, fr, st) => f fr st
  | r => r
theorem seqK_normal (fr : List AV) (st : St) (f : List AV → St → Option Out) : seqK (some (.normal, fr, st)) f = f fr st := spine rfl
theorem exec_seqK (call : CallT) (n : Nat) (a b : ACode) (fr : List AV) (st : St) : exec call n (.seq a b) fr st = seqK (exec call n a fr st) (exec call n b) := by
  simp only [exec, seqK]
  split <;> rename_i h <;> simp only [h]

/-- the results, out of how the body ended -/
def finK (rs : List ResK) (x : Option Out) : Option (AV × St) := match x with
  | some (.exit _, _, _) => none
  | some (_, fr, st) => match getAll rs fr with
    | some [v] => some (v, st)
    | some vs => some (.tuple vs, st)
    | none => none
  | none => none
theorem run_finK (fn : AFn) (call : CallT) (n : Nat) (args : List AV) (st : St) (h : args.length = fn.np) :
    fn.run call n args st = finK fn.results (exec call n fn.code (args ++ List.replicate (fn.nv - fn.np) .undef) st) := by
  unfold AFn.run finK
  rw [if_pos h]
  cases exec call n fn.code (args ++ List.replicate (fn.nv - fn.np) .undef) st with
  | none => rfl
  | some x =>
    obtain ⟨e, fr, st'⟩ := x
    cases e <;> dsimp only <;> cases getAll fn.results fr with
    | none => rfl
    | some vs =>
      match vs with
      | [] => rfl
      | [v] => rfl
      | _ :: _ :: _ => rfl
end Go.Cb
/-
  THE ABSTRACT MACHINE, part 31: more fuel does no harm.
-/
set_option maxRecDepth 4000
set_option linter.unusedSimpArgs false
namespace Go.Cb
open Classical

/-- one way of calling answers all that another answers -/
def CallLe (c c' : CallT) : Prop := ∀ f as st r, c f as st = some r → c' f as st = some r

theorem sem_le {c c' : CallT} (h : CallLe c c') {k : Kind} {as : List AV} {b : AV} {st : St} {r : AV × AV × St} (hs : sem k c as b st = some r) : sem k c' as b st = some r := by
  cases k
  case call f =>
    simp only [sem, semCall] at hs ⊢
    split at hs
    · rename_i hp
      rw [if_pos hp]
      obtain ⟨x, hx, rfl⟩ := Option.map_eq_some_iff.1 hs
      rw [h _ _ _ _ hx]
      rfl
    · cases hs
  case callA f m =>
    simp only [sem, semCallA] at hs ⊢
    cases hc : semCall f c (as.take m) b st with
    | none => rw [hc] at hs; cases hs
    | some x =>
      rw [hc] at hs
      have : semCall f c' (as.take m) b st = some x := by
        unfold semCall at hc ⊢
        split at hc
        · rename_i hp
          rw [if_pos hp]
          obtain ⟨y, hy, rfl⟩ := Option.map_eq_some_iff.1 hc
          rw [h _ _ _ _ hy]
          rfl
        · cases hc
      rw [this]
      exact hs
  case callV =>
    simp only [sem] at hs ⊢
    unfold semCallV at hs ⊢
    split at hs
    · split at hs
      · rename_i hp
        simp only [if_pos hp]
        obtain ⟨x, hx, rfl⟩ := Option.map_eq_some_iff.1 hs
        rw [h _ _ _ _ hx]
        rfl
      · cases hs
    · cases hs
  all_goals exact hs

theorem goOp_le {c c' : CallT} (h : CallLe c c') {o : AOper} {σ σ' : Sig} (hs : goOp c o σ = some σ') : goOp c' o σ = some σ' := by
  obtain ⟨r, b', st', h1, rfl⟩ := goOp_some hs
  exact goOp_mk (sem_le h h1)
theorem stepOp_le {c c' : CallT} (h : CallLe c c') {o : AOper} {σ σ' : Sig} (hs : stepOp c o σ = some σ') : stepOp c' o σ = some σ' := by
  unfold stepOp at hs ⊢
  split at hs
  · exact goOp_le h hs
  · split at hs
    · split at hs
      · rename_i hc; rw [if_pos hc]; exact goOp_le h hs
      · rename_i hc; rw [if_neg hc]; exact hs
    · exact hs
    · cases hs
theorem runOps_le {c c' : CallT} (h : CallLe c c') : ∀ {os : List AOper} {σ σ' : Sig}, runOps c os σ = some σ' → runOps c' os σ = some σ'
  | [], _, _, hs => hs
  | o :: os, σ, σ', hs => by
    simp only [runOps] at hs ⊢
    cases hq : stepOp c o σ with
    | none => simp [hq] at hs
    | some σ1 =>
      simp only [hq] at hs
      simp only [stepOp_le h hq]
      exact runOps_le h hs
theorem iter_le {body body' : List AV → St → Option Out} (h : ∀ fr st r, body fr st = some r → body' fr st = some r) : ∀ {n m : Nat} {fr : List AV} {st : St} {r : Out}, n ≤ m → iter body n fr st = some r → iter body' m fr st = some r
  | 0, _, _, _, _, _, hs => by simp [iter] at hs
  | n + 1, 0, _, _, _, hle, _ => by omega
  | n + 1, m + 1, fr, st, r, hle, hs => by
    simp only [iter] at hs ⊢
    cases hq : body fr st with
    | none => simp [hq] at hs
    | some o =>
      rw [hq] at hs
      rw [h _ _ _ hq]
      obtain ⟨e, fr1, st1⟩ := o
      cases e with
      | normal => exact iter_le h (by omega) hs
      | exit id => exact hs
      | ret => exact hs
theorem exec_le {c c' : CallT} (h : CallLe c c') {n m : Nat} (hle : n ≤ m) : ∀ {x : ACode} {fr : List AV} {st : St} {r : Out}, exec c n x fr st = some r → exec c' m x fr st = some r
  | .skip, _, _, _, hs => hs
  | .exit _, _, _, _, hs => hs
  | .ret, _, _, _, hs => hs
  | .reg kill ops, fr, st, r, hs => by
    simp only [exec] at hs ⊢
    cases hq : runOps c ops ⟨killAll kill fr, fun _ => .undef, st⟩ with
    | none => simp [hq] at hs
    | some σ => rw [hq] at hs; rw [runOps_le h hq]; exact hs
  | .test kill ops x a b, fr, st, r, hs => by
    rw [exec_test] at hs ⊢
    rw [runK_eq] at hs ⊢
    cases hq : runOps c ops ⟨killAll kill fr, fun _ => .undef, st⟩ with
    | none => rw [hq] at hs; cases hs
    | some σ =>
      rw [hq] at hs
      rw [runOps_le h hq]
      rw [obind_some] at hs ⊢
      unfold br at hs ⊢
      split at hs
      · exact exec_le h hle hs
      · exact exec_le h hle hs
      · cases hs
  | .either kill a b, fr, st, r, hs => by
    simp only [exec] at hs ⊢
    obtain ⟨oa, ob, ea, eb, ka, kb⟩ := agree_some hs
    rw [exec_le h hle ea, exec_le h hle eb, agree_same (ka.trans kb.symm), ka]
  | .seq a b, fr, st, r, hs => by
    rw [exec_seqK] at hs ⊢
    cases hq : exec c n a fr st with
    | none => rw [hq] at hs; cases hs
    | some o =>
      rw [hq] at hs
      rw [exec_le h hle hq]
      obtain ⟨e, fr1, st1⟩ := o
      cases e with
      | normal => exact exec_le h hle hs
      | exit id => exact hs
      | ret => exact hs
  | .blk id a, fr, st, r, hs => by
    simp only [exec] at hs ⊢
    cases hq : exec c n a fr st with
    | none => rw [hq] at hs; cases hs
    | some o => rw [hq] at hs; rw [exec_le h hle hq]; exact hs
  | .loop a, fr, st, r, hs => by
    simp only [exec] at hs ⊢
    exact iter_le (fun _ _ _ hb => exec_le h hle hb) hle hs
theorem run_le {c c' : CallT} (h : CallLe c c') {n m : Nat} (hle : n ≤ m) {fn : AFn} {args : List AV} {st : St} {r : AV × St} (hs : fn.run c n args st = some r) : fn.run c' m args st = some r := by
  have hl : args.length = fn.np := by
    unfold AFn.run at hs
    split at hs
    · assumption
    · cases hs
  rw [run_finK _ _ _ _ _ hl] at hs ⊢
  cases hq : exec c n fn.code (args ++ List.replicate (fn.nv - fn.np) .undef) st with
  | none => rw [hq] at hs; cases hs
  | some o => rw [hq] at hs; rw [exec_le h hle hq]; exact hs
theorem callF_le {tbl : Nat → Option AFn} : ∀ {n m : Nat}, n ≤ m → CallLe (callF tbl n) (callF tbl m)
  | 0, _, _, _, _, _, _, hs => by simp [callF] at hs
  | n + 1, 0, hle, _, _, _, _, _ => by omega
  | n + 1, m + 1, hle, f, as, st, r, hs => by
    simp only [callF] at hs ⊢
    cases htb : tbl f with
    | none => simp [htb] at hs
    | some fn =>
      simp only [htb] at hs ⊢
      cases he : fn.ext with
      | some e => simp only [he] at hs ⊢; exact hs
      | none =>
        simp only [he] at hs ⊢
        exact run_le (callF_le (by omega)) (by omega) hs

/-- a call that comes to an answer, with enough fuel -/
def Ev (tbl : Nat → Option AFn) (f : Nat) (as : List AV) (st : St) (r : AV) (st' : St) : Prop := ∃ n, callF tbl n f as st = some (r, st')
theorem Ev.ge {tbl : Nat → Option AFn} {f : Nat} {as : List AV} {st : St} {r : AV} {st' : St} (h : Ev tbl f as st r st') : ∃ n0, ∀ n, n0 ≤ n → callF tbl n f as st = some (r, st') :=
  let ⟨n, hn⟩ := h; ⟨n, fun m hm => callF_le hm _ _ _ _ hn⟩
end Go.Cb
/-
  THE ABSTRACT MACHINE, part 32: rules for what code comes to, with enough fuel.
-/
set_option maxRecDepth 4000
set_option linter.unusedVariables false
namespace Go.Cb
open Classical

section
variable {tbl : Nat → Option AFn}

/-- code comes to that, with enough fuel -/
def XC (tbl : Nat → Option AFn) (x : ACode) (fr : List AV) (st : St) (out : Out) : Prop := ∃ n, exec (callF tbl n) n x fr st = some out
theorem XC.ge {x : ACode} {fr : List AV} {st : St} {out : Out} (h : XC tbl x fr st out) : ∃ n0, ∀ n, n0 ≤ n → exec (callF tbl n) n x fr st = some out :=
  let ⟨n, hn⟩ := h; ⟨n, fun m hm => exec_le (callF_le hm) hm hn⟩

/-- k rounds of a loop, with enough fuel -/
def LX (tbl : Nat → Option AFn) (x : ACode) (fr : List AV) (st : St) (out : Out) : Prop := ∃ n k, iter (exec (callF tbl n) n x) k fr st = some out

theorem LX.done {x : ACode} {fr : List AV} {st : St} {e : Ex} {fr' : List AV} {st' : St} (h : XC tbl x fr st (e, fr', st')) (he : e ≠ .normal) : LX tbl x fr st (e, fr', st') := by
  obtain ⟨n, hn⟩ := h
  refine ⟨n, 1, ?_⟩
  simp only [iter, hn]
  cases e with
  | normal => exact absurd rfl he
  | exit id => rfl
  | ret => rfl
theorem LX.step {x : ACode} {fr fr1 : List AV} {st st1 : St} {out : Out} (h : XC tbl x fr st (.normal, fr1, st1)) (h' : LX tbl x fr1 st1 out) : LX tbl x fr st out := by
  obtain ⟨n, hn⟩ := h
  obtain ⟨m, k, hm⟩ := h'
  refine ⟨max n m, k + 1, ?_⟩
  have h1 := exec_le (callF_le (tbl := tbl) (Nat.le_max_left n m)) (Nat.le_max_left n m) hn
  simp only [iter, h1]
  exact iter_le (fun _ _ _ hb => exec_le (callF_le (Nat.le_max_right n m)) (Nat.le_max_right n m) hb) (Nat.le_refl k) hm
theorem XC.loop {x : ACode} {fr : List AV} {st : St} {out : Out} (h : LX tbl x fr st out) : XC tbl (.loop x) fr st out := by
  obtain ⟨n, k, h⟩ := h
  refine ⟨max n k, ?_⟩
  simp only [exec]
  exact iter_le (fun _ _ _ hb => exec_le (callF_le (Nat.le_max_left n k)) (Nat.le_max_left n k) hb) (Nat.le_max_right n k) h
theorem XC.seq {a b : ACode} {fr fr1 : List AV} {st st1 : St} {out : Out} (h : XC tbl a fr st (.normal, fr1, st1)) (h' : XC tbl b fr1 st1 out) : XC tbl (.seq a b) fr st out := by
  obtain ⟨n, hn⟩ := h
  obtain ⟨m, hm⟩ := h'
  refine ⟨max n m, ?_⟩
  rw [exec_seqK, exec_le (callF_le (Nat.le_max_left n m)) (Nat.le_max_left n m) hn, seqK_normal]
  exact exec_le (callF_le (Nat.le_max_right n m)) (Nat.le_max_right n m) hm
theorem XC.blk {id : Nat} {a : ACode} {fr fr1 : List AV} {st st1 : St} {e : Ex} (h : XC tbl a fr st (e, fr1, st1)) : XC tbl (.blk id a) fr st (if e = .exit id then .normal else e, fr1, st1) := by
  obtain ⟨n, hn⟩ := h
  refine ⟨n, ?_⟩
  simp only [exec, hn]
  cases e with
  | normal => rfl
  | exit id' =>
    by_cases hid : id' = id
    · subst hid; simp
    · simp [hid]
  | ret => rfl
theorem XC.skip {fr : List AV} {st : St} : XC tbl .skip fr st (.normal, fr, st) := ⟨0, rfl⟩
theorem XC.exit {id : Nat} {fr : List AV} {st : St} : XC tbl (.exit id) fr st (.exit id, fr, st) := ⟨0, rfl⟩
theorem XC.ret {fr : List AV} {st : St} : XC tbl .ret fr st (.ret, fr, st) := ⟨0, rfl⟩

theorem XC.of {x : ACode} {fr : List AV} {st : St} {out : Out} (h : ∃ n0, ∀ n, n0 ≤ n → exec (callF tbl n) n x fr st = some out) : XC tbl x fr st out :=
  let ⟨n, hn⟩ := h; ⟨n, hn n (Nat.le_refl n)⟩
/-- a test that goes on as one of its branches -/
theorem XC.goes {x a : ACode} {fr fr1 : List AV} {st st1 : St} {out : Out} (h : ∃ n0, ∀ n, n0 ≤ n → exec (callF tbl n) n x fr st = exec (callF tbl n) n a fr1 st1) (h' : XC tbl a fr1 st1 out) : XC tbl x fr st out := by
  obtain ⟨n, hn⟩ := h
  obtain ⟨m, hm⟩ := h'.ge
  exact ⟨max n m, by rw [hn _ (Nat.le_max_left n m)]; exact hm _ (Nat.le_max_right n m)⟩

/-- a function's answer, out of its body's -/
theorem Ev.of_body {f : Nat} {fn : AFn} {as : List AV} {st : St} {e : Ex} {fr' : List AV} {st' : St} {r : AV × St} (htb : tbl f = some fn) (he : fn.ext = none) (hl : as.length = fn.np)
    (h : XC tbl fn.code (as ++ List.replicate (fn.nv - fn.np) .undef) st (e, fr', st')) (hr : finK fn.results (some (e, fr', st')) = some r) : Ev tbl f as st r.1 r.2 := by
  obtain ⟨n, hn⟩ := h
  refine ⟨n + 1, ?_⟩
  simp only [callF, htb, he]
  rw [run_finK _ _ _ _ _ hl, hn, hr]
theorem Ev.of_ext {f : Nat} {fn : AFn} {as : List AV} {st : St} {e : List AV → St → Option (AV × St)} {r : AV × St} (htb : tbl f = some fn) (he : fn.ext = some e) (h : e as st = some r) : Ev tbl f as st r.1 r.2 :=
  ⟨1, by simp only [callF, htb, he]; exact h⟩
end
end Go.Cb
/-
  THE ABSTRACT MACHINE, part 33: with enough fuel it comes to something of that sort.
-/
set_option maxRecDepth 4000
set_option linter.unusedVariables false
namespace Go.Cb
open Classical

/-- with enough fuel it comes to something of that sort -/
def WC {α : Type} (c : Nat → Option α) (Q : α → Prop) : Prop := ∃ n0 a, (∀ n, n0 ≤ n → c n = some a) ∧ Q a
/-- a call comes to something of that sort -/
def EvQ (tbl : Nat → Option AFn) (f : Nat) (as : List AV) (st : St) (Q : AV → St → Prop) : Prop := ∃ r st', Ev tbl f as st r st' ∧ Q r st'

theorem WC.ret {α : Type} {a : α} {Q : α → Prop} (h : Q a) : WC (fun _ => some a) Q := ⟨0, a, fun _ _ => rfl, h⟩
theorem WC.mono {α : Type} {c : Nat → Option α} {P Q : α → Prop} (h : WC c P) (hq : ∀ a, P a → Q a) : WC c Q :=
  let ⟨n, a, ha, hp⟩ := h; ⟨n, a, ha, hq a hp⟩
theorem WC.obind {α β : Type} {c : Nat → Option α} {k : Nat → α → Option β} {P : α → Prop} {Q : β → Prop} (h : WC c P) (hk : ∀ a, P a → WC (fun n => k n a) Q) : WC (fun n => Go.Cb.obind (c n) (k n)) Q := by
  obtain ⟨n, a, ha, hp⟩ := h
  obtain ⟨m, b, hb, hq⟩ := hk a hp
  refine ⟨max n m, b, fun j hj => ?_, hq⟩
  show Go.Cb.obind (c j) (k j) = some b
  rw [ha j (by omega), obind_some]
  exact hb j (Nat.le_trans (Nat.le_max_right n m) hj)
theorem EvQ.mono {tbl : Nat → Option AFn} {f : Nat} {as : List AV} {st : St} {P Q : AV → St → Prop} (h : EvQ tbl f as st P) (hq : ∀ r st', P r st' → Q r st') : EvQ tbl f as st Q :=
  let ⟨r, st', he, hp⟩ := h; ⟨r, st', he, hq r st' hp⟩

section
variable {tbl : Nat → Option AFn}
theorem WC.call {β : Type} {f : Nat} {as as' : List AV} {bx : AV} {st : St} {k : Nat → AV × St → Option β} {P : AV → St → Prop} {Q : β → Prop}
    (h : EvQ tbl f as' st P) (hp : allPlain as = true) (hw : as.map AV.weak = as') (hk : ∀ r st', P r st' → WC (fun n => k n (r, st')) Q) : WC (fun n => Go.Cb.obind (p2 (semCall f (callF tbl n) as bx st)) (k n)) Q := by
  obtain ⟨r, st', he, hq⟩ := h
  obtain ⟨n0, h0⟩ := he.ge
  refine WC.obind (P := fun x => x = (r, st')) ⟨n0, (r, st'), fun n hn => ?_, rfl⟩ (fun a ha => ha ▸ hk r st' hq)
  simp only [semCall, hp, if_true, hw, h0 n hn, Option.map_some, p2_some]
theorem WC.callV {β : Type} {f : Nat} {first caps as as' : List AV} {bx : AV} {st : St} {k : Nat → AV × St → Option β} {P : AV → St → Prop} {Q : β → Prop}
    (h : EvQ tbl f as' st P) (hp : allPlain as = true) (hw : (first ++ as ++ caps).map AV.weak = as') (hk : ∀ r st', P r st' → WC (fun n => k n (r, st')) Q) : WC (fun n => Go.Cb.obind (p2 (semCallV (callF tbl n) (.func f first caps :: as) bx st)) (k n)) Q := by
  obtain ⟨r, st', he, hq⟩ := h
  obtain ⟨n0, h0⟩ := he.ge
  refine WC.obind (P := fun x => x = (r, st')) ⟨n0, (r, st'), fun n hn => ?_, rfl⟩ (fun a ha => ha ▸ hk r st' hq)
  simp only [semCallV, hp, if_true, hw, h0 n hn, Option.map_some, p2_some]

/-- what a block makes of how its code ended -/
def blkOut (id : Nat) (o : Out) : Out := match o with
  | (.exit id', fr, st) => if id' = id then (.normal, fr, st) else (.exit id', fr, st)
  | o => o
def blkK (id : Nat) (x : Option Out) : Option Out := match x with
  | some o => some (blkOut id o)
  | none => none
theorem blkK_some (id : Nat) (o : Out) : blkK id (some o) = some (blkOut id o) := spine rfl
theorem WC.seqK {c : Nat → Option Out} {g : Nat → List AV → St → Option Out} {P Q : Out → Prop} (h : WC c P) (hk : ∀ o, P o → WC (fun n => Go.Cb.seqK (some o) (g n)) Q) : WC (fun n => Go.Cb.seqK (c n) (g n)) Q := by
  obtain ⟨n, a, ha, hp⟩ := h
  obtain ⟨m, b, hb, hq⟩ := hk a hp
  exact ⟨max n m, b, fun j hj => by dsimp only; rw [ha j (by omega)]; exact hb j (by omega), hq⟩
theorem WC.blkK {id : Nat} {c : Nat → Option Out} {Q : Out → Prop} (h : WC c (fun o => Q (blkOut id o))) : WC (fun n => Go.Cb.blkK id (c n)) Q := by
  obtain ⟨n, a, ha, hp⟩ := h
  exact ⟨n, _, fun j hj => by dsimp only; rw [ha j hj, blkK_some], hp⟩
theorem WC.finK {rs : List ResK} {c : Nat → Option Out} {P : Out → Prop} {Q : AV × St → Prop} (h : WC c P) (hk : ∀ o, P o → WC (fun n => Go.Cb.finK rs (some o)) Q) : WC (fun n => Go.Cb.finK rs (c n)) Q := by
  obtain ⟨n, a, ha, hp⟩ := h
  obtain ⟨m, b, hb, hq⟩ := hk a hp
  exact ⟨max n m, b, fun j hj => by dsimp only; rw [ha j (by omega)]; exact hb j (by omega), hq⟩

theorem WC.of_xc {x : ACode} {fr : List AV} {st : St} {out : Out} {Q : Out → Prop} (h : XC tbl x fr st out) (hq : Q out) : WC (fun n => exec (callF tbl n) n x fr st) Q := by
  obtain ⟨n, hn⟩ := h.ge
  exact ⟨n, out, hn, hq⟩
theorem WC.xc {x : ACode} {fr : List AV} {st : St} {Q : Out → Prop} (h : WC (fun n => exec (callF tbl n) n x fr st) Q) : ∃ out, XC tbl x fr st out ∧ Q out := by
  obtain ⟨n, a, ha, hq⟩ := h
  exact ⟨a, ⟨n, ha n (Nat.le_refl n)⟩, hq⟩

/-- a loop, by what holds ahead of each round, and a number that falls -/
theorem WC.loop {x : ACode} {Q : Out → Prop} (I : Nat → List AV → St → Prop) {m : Nat} {fr : List AV} {st : St} (h0 : I m fr st)
    (hI : ∀ m fr st, I m fr st → WC (fun n => exec (callF tbl n) n x fr st) (fun o => (∃ m' fr' st', o = (.normal, fr', st') ∧ m' < m ∧ I m' fr' st') ∨ (o.1 ≠ .normal ∧ Q o))) :
    WC (fun n => exec (callF tbl n) n (.loop x) fr st) Q := by
  have key : ∀ m fr st, I m fr st → ∃ out, LX tbl x fr st out ∧ Q out := by
    intro m
    induction m using Nat.strongRecOn with
    | ind m ih =>
      intro fr st h
      obtain ⟨out, hx, hc⟩ := (hI m fr st h).xc
      rcases hc with ⟨m', fr', st', rfl, hlt, hi⟩ | ⟨hne, hq⟩
      · obtain ⟨out, hl, hq⟩ := ih m' hlt fr' st' hi
        exact ⟨out, LX.step hx hl, hq⟩
      · obtain ⟨e, fr', st'⟩ := out
        exact ⟨_, LX.done hx hne, hq⟩
  obtain ⟨out, hl, hq⟩ := key m fr st h0
  exact WC.of_xc (XC.loop hl) hq

/-- a function's answer -/
theorem EvQ.of_body {f : Nat} {fn : AFn} {as : List AV} {st : St} {Q : AV → St → Prop} (htb : tbl f = some fn) (he : fn.ext = none) (hl : as.length = fn.np)
    (h : WC (fun n => Go.Cb.finK fn.results (exec (callF tbl n) n fn.code (as ++ List.replicate (fn.nv - fn.np) .undef) st)) (fun r => Q r.1 r.2)) : EvQ tbl f as st Q := by
  obtain ⟨n, a, ha, hq⟩ := h
  refine ⟨a.1, a.2, ⟨n + 1, ?_⟩, hq⟩
  simp only [callF, htb, he]
  rw [run_finK _ _ _ _ _ hl]
  exact ha n (Nat.le_refl n)
theorem EvQ.of_ext {f : Nat} {fn : AFn} {as : List AV} {st : St} {e : List AV → St → Option (AV × St)} {r : AV × St} {Q : AV → St → Prop} (htb : tbl f = some fn) (he : fn.ext = some e) (h : e as st = some r) (hq : Q r.1 r.2) : EvQ tbl f as st Q :=
  ⟨_, _, Ev.of_ext htb he h, hq⟩
end
end Go.Cb
/-
  THE ABSTRACT MACHINE, part 34: rules for loops within blocks, and for a body's end.
-/
set_option maxRecDepth 4000
set_option linter.unusedVariables false
namespace Go.Cb
open Classical
section
variable {tbl : Nat → Option AFn}

theorem WC.next {I : Nat → List AV → St → Prop} {m m' : Nat} {fr' : List AV} {st' : St} {R : Out → Prop} (hm : m' < m) (hi : I m' fr' st') :
    WC (fun _ => some (Ex.normal, fr', st')) (fun o => (∃ m' fr' st', o = (.normal, fr', st') ∧ m' < m ∧ I m' fr' st') ∨ (o.1 ≠ .normal ∧ R o)) := WC.ret (Or.inl ⟨m', fr', st', rfl, hm, hi⟩)
/-- a function's answer, told at its body's end -/
theorem EvQ.body {f : Nat} {fn : AFn} {as : List AV} {st : St} {Q : AV → St → Prop} (htb : tbl f = some fn) (he : fn.ext = none) (hl : as.length = fn.np)
    (h : WC (fun n => exec (callF tbl n) n fn.code (as ++ List.replicate (fn.nv - fn.np) .undef) st) (fun o => ∃ r st', Go.Cb.finK fn.results (some o) = some (r, st') ∧ Q r st')) : EvQ tbl f as st Q :=
  EvQ.of_body htb he hl (WC.finK h fun o ⟨r, st', hr, hq⟩ => ⟨0, (r, st'), fun _ _ => hr, hq⟩)
end
end Go.Cb
/-
  THE ABSTRACT MACHINE, part 35: small laws on numbers and rows, for walks with unknowns.
-/
set_option maxRecDepth 4000
set_option linter.unusedVariables false
namespace Go.Cb
open Classical

end Go.Cb
/-
  THE ABSTRACT MACHINE, part 36: guarded values, reckoned without splitting; copies, form by form; tests as rules.
-/
set_option maxRecDepth 4000
set_option linter.unusedVariables false
namespace Go.Cb
open Classical

/-! what comes behind, as constants that wait: nothing of it is reckoned ahead of its time -/
def exeT (call : CallT) (n : Nat) (a : ACode) (fr : List AV) (st : St) (_ : Unit) : Option Out := exec call n a fr st
def brT (c : AV) (A B : Unit → Option Out) : Option Out := match c with
  | .bool true => A ()
  | .bool false => B ()
  | _ => none
theorem br_brT (call : CallT) (n : Nat) (c : AV) (a b : ACode) (fr : List AV) (st : St) : Go.Cb.br c (exec call n a fr st) (exec call n b fr st) = brT c (exeT call n a fr st) (exeT call n b fr st) := by
  cases c <;> try rfl
theorem exec_testT (call : CallT) (n : Nat) (kill : List Nat) (ps : List AOper) (c : Opd) (a b : ACode) (fr : List AV) (st : St) :
    exec call n (.test kill ps c a b) fr st = runK call ps ⟨killAll kill fr, fun _ => .undef, st⟩ fun σ => brT (c.read σ) (exeT call n a σ.fr σ.st) (exeT call n b σ.fr σ.st) := by
  rw [exec_test]
  simp only [br_brT]
theorem WC.br {c : Bool} {A B : Nat → Unit → Option Out} {Q : Out → Prop} (ht : c = true → WC (fun n => A n ()) Q) (hf : c = false → WC (fun n => B n ()) Q) : WC (fun n => brT (.bool c) (A n) (B n)) Q := by
  cases c with
  | true => exact ht rfl
  | false => exact hf rfl
theorem WC.g2 {β : Type} {c want : Bool} {st : St} {E : Nat → Option (AV × St)} {k : Nat → AV × St → Option β} {Q : β → Prop} (ht : c = want → WC (fun n => Go.Cb.obind (E n) (k n)) Q) (hf : c = !want → WC (fun n => k n (.tuple [], st)) Q) :
    WC (fun n => Go.Cb.obind (gv2 (.bool c) want st (E n)) (k n)) Q := by
  by_cases h : c = want
  · subst h
    have e : ∀ n, gv2 (.bool c) c st (E n) = E n := fun n => by cases c <;> rfl
    simp only [e]
    exact ht rfl
  · have h' : c = !want := by cases c <;> cases want <;> simp_all
    have e : ∀ n, gv2 (.bool c) want st (E n) = some (.tuple [], st) := fun n => by subst h'; cases want <;> rfl
    simp only [e, obind_some]
    exact hf h'
end Go.Cb
/-
  THE ABSTRACT MACHINE, part 37: what operations come to, form by form; all of it under one name.
-/
set_option maxRecDepth 4000
set_option linter.unusedVariables false
set_option linter.unusedSimpArgs false
namespace Go.Cb
/-- a temporary, read -/
def W (a : AV) : AV := AV.weak (AV.stripB a)
def brE (c : AV) (call : CallT) (n : Nat) (a b : ACode) (fr : List AV) (st : St) : Option Out := brT c (exeT call n a fr st) (exeT call n b fr st)
/-- a move -/
def m1 {β : Type} (a : AV) (f : AV → Option β) : Option β := obind (p1 (some (a, AV.undef, ([] : St)))) f
/-- a guarded move -/
def gm {β : Type} (x : AV) (w : Bool) (a : AV) (f : AV → Option β) : Option β := obind (gv x w (some a)) f
end Go.Cb
namespace Go.Cb.R
open Go.Cb
theorem nn (n : Nat) : (0 ≤ (n : Int)) = True := by simp
end Go.Cb.R
namespace Go.Cb
open Go.Cb.R
end Go.Cb
/-
  THE ABSTRACT MACHINE, part 38: the same meanings once more, told so that the kernel reckons them quickly.
-/
set_option maxRecDepth 4000
set_option linter.unusedVariables false
namespace Go.Cb.F
open Go Go.Cb

/-- what a region comes to: what is asked, the variables, the store -/
abbrev O := Option (AV × List AV × St)

/-! taking values apart -/
section
variable {α : Type}
noncomputable def onI (x : AV) (e : O) (k : IntKind → Int → O) : O := AV.rec (motive_1 := fun _ => O) (motive_2 := fun _ => Unit) (motive_3 := fun _ => Unit)
  e (fun _ => e) (fun t n => k t n) (fun _ => e) (fun _ _ _ => e) (fun _ _ => e) e (fun _ _ => e) (fun _ _ => e) (fun _ _ => e) (fun _ => e) e (fun _ _ _ _ _ => e) e (fun _ _ => e) (fun _ _ => e) (fun _ _ _ => e) e (fun _ _ _ _ => e) (fun _ _ => e)
  () (fun _ _ _ _ => ()) () (fun _ _ _ _ => ()) x
noncomputable def onIS (x : AV) (e : O) (k : IntKind → Int → O) (l : List Nat → O) : O := AV.rec (motive_1 := fun _ => O) (motive_2 := fun _ => Unit) (motive_3 := fun _ => Unit)
  e (fun _ => e) (fun t n => k t n) (fun s => l s) (fun _ _ _ => e) (fun _ _ => e) e (fun _ _ => e) (fun _ _ => e) (fun _ _ => e) (fun _ => e) e (fun _ _ _ _ _ => e) e (fun _ _ => e) (fun _ _ => e) (fun _ _ _ => e) e (fun _ _ _ _ => e) (fun _ _ => e)
  () (fun _ _ _ _ => ()) () (fun _ _ _ _ => ()) x
noncomputable def onS (x : AV) (e : O) (k : List Nat → O) : O := AV.rec (motive_1 := fun _ => O) (motive_2 := fun _ => Unit) (motive_3 := fun _ => Unit)
  e (fun _ => e) (fun t n => e) (fun s => k s) (fun _ _ _ => e) (fun _ _ => e) e (fun _ _ => e) (fun _ _ => e) (fun _ _ => e) (fun _ => e) e (fun _ _ _ _ _ => e) e (fun _ _ => e) (fun _ _ => e) (fun _ _ _ => e) e (fun _ _ _ _ => e) (fun _ _ => e)
  () (fun _ _ _ _ => ()) () (fun _ _ _ _ => ()) x
noncomputable def onB (x : AV) (e : O) (k : Bool → O) : O := AV.rec (motive_1 := fun _ => O) (motive_2 := fun _ => Unit) (motive_3 := fun _ => Unit)
  e (fun b => k b) (fun t n => e) (fun s => e) (fun _ _ _ => e) (fun _ _ => e) e (fun _ _ => e) (fun _ _ => e) (fun _ _ => e) (fun _ => e) e (fun _ _ _ _ _ => e) e (fun _ _ => e) (fun _ _ => e) (fun _ _ _ => e) e (fun _ _ _ _ => e) (fun _ _ => e)
  () (fun _ _ _ _ => ()) () (fun _ _ _ _ => ()) x
/-- a bool, or nothing at all -/
noncomputable def onBT (x : AV) (e : O) (k : Bool → O) (t : List AV → O) : O := AV.rec (motive_1 := fun _ => O) (motive_2 := fun _ => Unit) (motive_3 := fun _ => Unit)
  e (fun b => k b) (fun t n => e) (fun s => e) (fun _ _ _ => e) (fun _ _ => e) e (fun _ _ => e) (fun _ _ => e) (fun _ _ => e) (fun _ => e) e (fun _ _ _ _ _ => e) e (fun _ _ => e) (fun vs _ => t vs) (fun _ _ _ => e) e (fun _ _ _ _ => e) (fun _ _ => e)
  () (fun _ _ _ _ => ()) () (fun _ _ _ _ => ()) x
noncomputable def onL (x : AV) (e : O) (k : List (List AV) → O) : O := AV.rec (motive_1 := fun _ => O) (motive_2 := fun _ => Unit) (motive_3 := fun _ => Unit)
  e (fun b => e) (fun t n => e) (fun s => e) (fun _ xs _ => k xs) (fun _ _ => e) e (fun _ _ => e) (fun _ _ => e) (fun _ _ => e) (fun _ => e) e (fun _ _ _ _ _ => e) e (fun _ _ => e) (fun _ _ => e) (fun _ _ _ => e) e (fun _ _ _ _ => e) (fun _ _ => e)
  () (fun _ _ _ _ => ()) () (fun _ _ _ _ => ()) x
noncomputable def onP (x : AV) (e : O) (k : Nat → Nat → O) : O := AV.rec (motive_1 := fun _ => O) (motive_2 := fun _ => Unit) (motive_3 := fun _ => Unit)
  e (fun b => e) (fun t n => e) (fun s => e) (fun _ xs _ => e) (fun o f => k o f) e (fun _ _ => e) (fun _ _ => e) (fun _ _ => e) (fun _ => e) e (fun _ _ _ _ _ => e) e (fun _ _ => e) (fun _ _ => e) (fun _ _ _ => e) e (fun _ _ _ _ => e) (fun _ _ => e)
  () (fun _ _ _ _ => ()) () (fun _ _ _ _ => ()) x
noncomputable def onPRL (x : AV) (e : O) (k : Nat → Nat → O) (l : List AV → O) (m : Nat → Nat → O) : O := AV.rec (motive_1 := fun _ => O) (motive_2 := fun _ => Unit) (motive_3 := fun _ => Unit)
  e (fun b => e) (fun t n => e) (fun s => e) (fun _ xs _ => e) (fun o f => k o f) e (fun cs _ => l cs) (fun i f => m i f) (fun _ _ => e) (fun _ => e) e (fun _ _ _ _ _ => e) e (fun _ _ => e) (fun _ _ => e) (fun _ _ _ => e) e (fun _ _ _ _ => e) (fun _ _ => e)
  () (fun _ _ _ _ => ()) () (fun _ _ _ _ => ()) x
noncomputable def onR (x : AV) (e : O) (l : List AV → O) : O := AV.rec (motive_1 := fun _ => O) (motive_2 := fun _ => Unit) (motive_3 := fun _ => Unit)
  e (fun b => e) (fun t n => e) (fun s => e) (fun _ xs _ => e) (fun o f => e) e (fun cs _ => l cs) (fun _ _ => e) (fun _ _ => e) (fun _ => e) e (fun _ _ _ _ _ => e) e (fun _ _ => e) (fun _ _ => e) (fun _ _ _ => e) e (fun _ _ _ _ => e) (fun _ _ => e)
  () (fun _ _ _ _ => ()) () (fun _ _ _ _ => ()) x
noncomputable def onBx (x : AV) (e : O) (l : List AV → O) : O := AV.rec (motive_1 := fun _ => O) (motive_2 := fun _ => Unit) (motive_3 := fun _ => Unit)
  e (fun b => e) (fun t n => e) (fun s => e) (fun _ xs _ => e) (fun o f => e) e (fun cs _ => e) (fun _ _ => e) (fun cs _ => l cs) (fun _ => e) e (fun _ _ _ _ _ => e) e (fun _ _ => e) (fun _ _ => e) (fun _ _ _ => e) e (fun _ _ _ _ => e) (fun _ _ => e)
  () (fun _ _ _ _ => ()) () (fun _ _ _ _ => ()) x
noncomputable def onLc (x : AV) (e : O) (l : Nat → Nat → O) : O := AV.rec (motive_1 := fun _ => O) (motive_2 := fun _ => Unit) (motive_3 := fun _ => Unit)
  e (fun b => e) (fun t n => e) (fun s => e) (fun _ xs _ => e) (fun o f => e) e (fun cs _ => e) (fun i f => l i f) (fun cs _ => e) (fun _ => e) e (fun _ _ _ _ _ => e) e (fun _ _ => e) (fun _ _ => e) (fun _ _ _ => e) e (fun _ _ _ _ => e) (fun _ _ => e)
  () (fun _ _ _ _ => ()) () (fun _ _ _ _ => ()) x

theorem onI_eq (x : AV) (e : O) (k : IntKind → Int → O) : onI x e k = match x with | .int t n => k t n | _ => e := by cases x <;> rfl
theorem onIS_eq (x : AV) (e : O) (k : IntKind → Int → O) (l : List Nat → O) : onIS x e k l = match x with | .int t n => k t n | .str s => l s | _ => e := by cases x <;> rfl
theorem onS_eq (x : AV) (e : O) (k : List Nat → O) : onS x e k = match x with | .str s => k s | _ => e := by cases x <;> rfl
theorem onB_eq (x : AV) (e : O) (k : Bool → O) : onB x e k = match x with | .bool b => k b | _ => e := by cases x <;> rfl
theorem onBT_eq (x : AV) (e : O) (k : Bool → O) (t : List AV → O) : onBT x e k t = match x with | .bool b => k b | .tuple vs => t vs | _ => e := by cases x <;> rfl
theorem onL_eq (x : AV) (e : O) (k : List (List AV) → O) : onL x e k = match x with | .list _ xs => k xs | _ => e := by cases x <;> rfl
theorem onP_eq (x : AV) (e : O) (k : Nat → Nat → O) : onP x e k = match x with | .ptr o f => k o f | _ => e := by cases x <;> rfl
theorem onPRL_eq (x : AV) (e : O) (k : Nat → Nat → O) (l : List AV → O) (m : Nat → Nat → O) : onPRL x e k l m = match x with | .ptr o f => k o f | .ro cs => l cs | .loc i f => m i f | _ => e := by cases x <;> rfl
theorem onR_eq (x : AV) (e : O) (l : List AV → O) : onR x e l = match x with | .ro cs => l cs | _ => e := by cases x <;> rfl
theorem onBx_eq (x : AV) (e : O) (l : List AV → O) : onBx x e l = match x with | .box cs => l cs | _ => e := by cases x <;> rfl
theorem onLc_eq (x : AV) (e : O) (l : Nat → Nat → O) : onLc x e l = match x with | .loc i f => l i f | _ => e := by cases x <;> rfl
end

noncomputable def kIx (k : IntKind) : Nat := IntKind.rec (motive := fun _ => Nat) 0 1 2 3 4 5 6 7 k
noncomputable def cB (b : Bool) (x y : O) : O := Bool.rec (motive := fun _ => O) y x b
theorem cB_eq (b : Bool) (x y : O) : cB b x y = if b = true then x else y := by cases b <;> rfl
theorem kIx_eq (a b : IntKind) : Nat.beq (kIx a) (kIx b) = decide (a = b) := by cases a <;> cases b <;> rfl
/-- a truth, reckoned out -/
noncomputable def bo (b : Bool) (k : AV → O) : O := cB b (k (.bool true)) (k (.bool false))
theorem bo_eq (b : Bool) (k : AV → O) : bo b k = k (.bool b) := by cases b <;> rfl
noncomputable def natK (n : Nat) (k : Nat → O) : O := Nat.rec (motive := fun _ => O) (k 0) (fun m _ => k (Nat.succ m)) n
theorem natK_eq (n : Nat) (k : Nat → O) : natK n k = k n := by cases n <;> rfl
/-- two numbers that aren't negative, and the other case -/
noncomputable def nn (a b : Int) (e : O) (k : Nat → Nat → O) : O := Int.rec (motive := fun _ => O) (fun a => Int.rec (motive := fun _ => O) (fun b => k a b) (fun _ => e) b) (fun _ => e) a
theorem nn_eq (a b : Int) (e : O) (k : Nat → Nat → O) : nn a b e k = match a, b with | .ofNat a, .ofNat b => k a b | _, _ => e := by cases a <;> cases b <;> rfl
noncomputable def eqF (x : List Nat) : List Nat → Bool := List.rec (motive := fun _ => List Nat → Bool) (fun y => List.rec (motive := fun _ => Bool) true (fun _ _ _ => false) y)
  (fun a _ ih y => List.rec (motive := fun _ => Bool) false (fun b t _ => Bool.rec (motive := fun _ => Bool) false (ih t) (Nat.beq a b)) y) x
theorem eqF_eq : ∀ x y : List Nat, eqF x y = eqN x y
  | [], [] => rfl
  | [], _ :: _ => rfl
  | _ :: _, [] => rfl
  | a :: x, b :: y => by
    have ih := eqF_eq x y
    show (Bool.rec (motive := fun _ => Bool) false (eqF x y) (Nat.beq a b)) = (Nat.beq a b && eqN x y)
    rw [ih]
    cases Nat.beq a b <;> rfl
/-- the i-th -/
noncomputable def nthO {β : Type} (l : List β) (e : O) (k : β → O) : Nat → O := List.rec (motive := fun _ => Nat → O) (fun _ => e) (fun a _ ih i => Nat.rec (motive := fun _ => O) (k a) (fun j _ => ih j) i) l
theorem nthO_eq {β : Type} : ∀ (l : List β) (e : O) (k : β → O) (i : Nat), nthO l e k i = match l[i]? with | some a => k a | none => e
  | [], e, k, i => by cases i <;> rfl
  | a :: l, e, k, 0 => rfl
  | a :: l, e, k, i + 1 => by
    have := nthO_eq l e k i
    show nthO l e k i = _
    rw [this]
    simp
noncomputable def lenF {β : Type} (l : List β) : Nat := List.rec (motive := fun _ => Nat) 0 (fun _ _ n => Nat.add n 1) l
theorem lenF_eq {β : Type} : ∀ l : List β, lenF l = l.length
  | [] => rfl
  | a :: l => by
    show Nat.add (lenF l) 1 = _
    rw [lenF_eq l]
    rfl
noncomputable def dropF (n : Nat) : List AV → List AV := Nat.rec (motive := fun _ => List AV → List AV) (fun l => l) (fun _ ih l => List.rec (motive := fun _ => List AV) [] (fun _ t _ => ih t) l) n
theorem dropF_eq : ∀ (n : Nat) (l : List AV), dropF n l = l.drop n
  | 0, l => rfl
  | n + 1, [] => rfl
  | n + 1, a :: l => dropF_eq n l
/-- the rest from the i-th on, told so that each rest is found again -/
noncomputable def dropC {β : Type} (i : Nat) (l : List β) : List β := Nat.rec (motive := fun _ => List β) l (fun _ ih => List.rec (motive := fun _ => List β) [] (fun _ t _ => t) ih) i
theorem dropC_eq {β : Type} : ∀ (i : Nat) (l : List β), dropC i l = l.drop i
  | 0, l => rfl
  | i + 1, l => by
    have := dropC_eq i l
    show List.rec (motive := fun _ => List β) [] (fun _ t _ => t) (dropC i l) = _
    rw [this, show l.drop (i + 1) = (l.drop i).drop 1 by rw [List.drop_drop]]
    cases l.drop i <;> rfl
noncomputable def atO {β : Type} (l : List β) (e : O) (k : β → O) (i : Nat) : O := List.rec (motive := fun _ => O) e (fun a _ _ => k a) (dropC i l)
theorem atO_eq {β : Type} (l : List β) (e : O) (k : β → O) (i : Nat) : atO l e k i = match l[i]? with | some a => k a | none => e := by
  unfold atO
  rw [dropC_eq]
  have h : l[i]? = (l.drop i)[0]? := by simp
  rw [h]
  cases l.drop i <;> rfl
/-- the first n, reckoned out -/
noncomputable def takeK {β : Type} (n : Nat) (l : List β) (k : List β → O) : O := Nat.rec (motive := fun _ => List β → (List β → O) → O) (fun _ k => k []) (fun _ ih l k => List.rec (motive := fun _ => O) (k []) (fun a t _ => ih t fun r => k (a :: r)) l) n l k
theorem takeK_eq {β : Type} : ∀ (n : Nat) (l : List β) (k : List β → O), takeK n l k = k (l.take n)
  | 0, l, k => by show k [] = _; rw [List.take_zero]
  | n + 1, [], k => rfl
  | n + 1, a :: l, k => takeK_eq n l fun r => k (a :: r)
/-- one list behind the other, reckoned out -/
noncomputable def appK {β : Type} (l r : List β) (k : List β → O) : O := List.rec (motive := fun _ => (List β → O) → O) (fun k => k r) (fun a _ ih k => ih fun t => k (a :: t)) l k
theorem appK_eq {β : Type} (r : List β) : ∀ (l : List β) (k : List β → O), appK l r k = k (l ++ r)
  | [], k => rfl
  | a :: l, k => appK_eq r l fun t => k (a :: t)
noncomputable def headO (l : List AV) (e : O) (k : AV → O) : O := List.rec (motive := fun _ => O) e (fun a _ _ => k a) l
theorem headO_eq (l : List AV) (e : O) (k : AV → O) : headO l e k = match l with | a :: _ => k a | [] => e := by cases l <;> rfl

noncomputable def w1K (x : AV) (k : AV → O) : O := AV.rec (motive_1 := fun _ => O) (motive_2 := fun _ => Unit) (motive_3 := fun _ => Unit)
  (k .undef) (fun b => k (.bool b)) (fun t n => k (.int t n)) (fun s => k (.str s)) (fun _ xs _ => k (.list false xs)) (fun o f => k (.ptr o f)) (k .nilp) (fun cs _ => k (.ro cs)) (fun i f => k (.loc i f)) (fun cs _ => k (.box cs)) (fun o => k (.map o)) (k .nilm) (fun f a c _ _ => k (.func f a c)) (k .nilf) (fun cs _ => k (.agg cs)) (fun vs _ => k (.tuple vs)) (fun t v _ => k (.iface t v)) (k .nili) (fun o f n s => k (.sl o f n s)) (fun xs _ => k (.fresh xs))
  () (fun _ _ _ _ => ()) () (fun _ _ _ _ => ()) x
theorem w1K_eq (x : AV) (k : AV → O) : w1K x k = k x.weak1 := by cases x <;> rfl
noncomputable def mapW (l : List AV) (k : List AV → O) : O := List.rec (motive := fun _ => (List AV → O) → O) (fun k => k []) (fun a _ ih k => w1K a fun w => ih fun r => k (w :: r)) l k
theorem mapW_eq : ∀ (l : List AV) (k : List AV → O), mapW l k = k (l.map AV.weak1)
  | [], k => rfl
  | a :: l, k => by
    show w1K a (fun w => mapW l fun r => k (w :: r)) = _
    rw [w1K_eq, mapW_eq l]
    rfl

/-! the operations -/
section
variable (c : CallT) (b : AV) (s : St) (f : AV → O)
noncomputable def qEql (x y : AV) : O := onIS x none (fun t m => onI y none fun u n => cB (Nat.beq (kIx t) (kIx u)) (nn m n (bo (eqI m n) f) fun a b => bo (Nat.beq a b) f) none) (fun l => onS y none fun r => bo (eqF l r) f)
noncomputable def qNeq (x y : AV) : O := onIS x none (fun t m => onI y none fun u n => cB (Nat.beq (kIx t) (kIx u)) (nn m n (bo (!eqI m n) f) fun a b => cB (Nat.beq a b) (f (.bool false)) (f (.bool true))) none) (fun l => onS y none fun r => cB (eqF l r) (f (.bool false)) (f (.bool true)))
noncomputable def qCmp (op : BinOp) (g : Nat → Nat → Bool) (x y : AV) : O := onI x (obind (p1 (sem (.bin op) c [x, y] b s)) f) (fun t m => onI y none fun u n => cB (Nat.beq (kIx t) (kIx u)) (nn m n (obind (p1 (sem (.bin op) c [.int t m, .int u n] b s)) f) fun a b => bo (g a b) f) none)
noncomputable def qAdd (x y : AV) : O := onI x (obind (p1 (sem (.bin .add) c [x, y] b s)) f) (fun t m => onI y none fun u n => cB (Nat.beq (kIx t) (kIx u)) (nn m n (obind (p1 (sem (.bin .add) c [.int t m, .int u n] b s)) f)
  fun i j => natK (Nat.add i j) fun r => cB (Nat.blt r 128) (f (.int t (.ofNat r))) (cB (Nat.beq (kIx t) 3) (cB (Nat.blt r 9223372036854775808) (f (.int t (.ofNat r))) (obind (p1 (sem (.bin .add) c [.int t m, .int u n] b s)) f)) (obind (p1 (sem (.bin .add) c [.int t m, .int u n] b s)) f))) none)
noncomputable def qSub (x y : AV) : O := onI x (obind (p1 (sem (.bin .sub) c [x, y] b s)) f) (fun t m => onI y none fun u n => cB (Nat.beq (kIx t) (kIx u)) (nn m n (obind (p1 (sem (.bin .sub) c [.int t m, .int u n] b s)) f)
  fun i j => cB (Nat.ble j i) (natK (Nat.sub i j) fun r => cB (Nat.blt r 128) (f (.int t (.ofNat r))) (cB (Nat.beq (kIx t) 3) (cB (Nat.blt r 9223372036854775808) (f (.int t (.ofNat r))) (obind (p1 (sem (.bin .sub) c [.int t m, .int u n] b s)) f)) (obind (p1 (sem (.bin .sub) c [.int t m, .int u n] b s)) f))) (obind (p1 (sem (.bin .sub) c [.int t m, .int u n] b s)) f)) none)
noncomputable def qNot (x : AV) : O := onB x none fun y => cB y (f (.bool false)) (f (.bool true))
noncomputable def qPlain (x : AV) : O := cB x.plain (f x) none
noncomputable def qPick (x y z : AV) : O := onB x none fun v => cB v (qPlain f y) (qPlain f z)
noncomputable def qNil (x : AV) : O := onPRL x (obind (p1 (sem .nilchk c [x] b s)) f) (fun o i => f (.ptr o i)) (fun cs => f (.ro cs)) (fun i j => f (.loc i j))
noncomputable def qFad (d : Nat) (x : AV) : O := onPRL x none (fun o i => natK (Nat.add i d) fun i => f (.ptr o i)) (fun cs => f (.ro (dropF d cs))) (fun o i => natK (Nat.add i d) fun i => f (.loc o i))
noncomputable def qTake (ag : Bool) (n : Nat) (cs : List AV) : O := cB ag (cB (Nat.ble n (lenF cs)) (takeK n cs fun r => mapW r fun r => f (.agg r)) none) (headO cs none fun x => w1K x f)
noncomputable def cellsO (x : Obj) (k : List AV → O) : O := Obj.rec (motive := fun _ => O) k (fun _ => none) none x
noncomputable def qLdSt (ag : Bool) (n : Nat) (x : AV) : O := onP x none fun o i => nthO s none (fun ob => cellsO ob fun cs => qTake f ag n (dropF i cs)) o
noncomputable def qLdRo (ag : Bool) (n : Nat) (x : AV) : O := onR x none fun cs => qTake f ag n cs
noncomputable def qLdLc (i : Nat) (ag : Bool) (n : Nat) (x : AV) : O := onLc x none fun j off => onBx b none fun cs => cB (Nat.beq i j) (qTake f ag n (dropF off cs)) none
noncomputable def qLenS (x : AV) : O := onS x none fun l => natK (lenF l) fun n => f (.int .i64 (.ofNat n))
noncomputable def qLenL (x : AV) : O := onL x (obind (p1 (sem .lenL c [x] b s)) f) fun l => natK (lenF l) fun n => f (.int .i64 (.ofNat n))
noncomputable def qIdx (x y : AV) : O := onS x none fun l => onI y none fun _ n => Int.rec (motive := fun _ => O) (fun i => atO l none (fun m => f (.int .u8 (.ofNat m))) i) (fun _ => none) n
noncomputable def qIad (sz : Nat) (x y : AV) : O := onL x (obind (p1 (sem (.iad sz) c [x, y] b s)) f) fun l => onI y none fun _ n => Int.rec (motive := fun _ => O) (fun i => atO l none (fun r => cB (Nat.beq (lenF r) sz) (f (.ro r)) none) i) (fun _ => none) n
end

section
variable (c : CallT) (b : AV) (s : St) (f : AV → O)
theorem qEql_eq (x y : AV) : qEql f x y = obind (p1 (sem (.bin .eql) c [x, y] b s)) f := by
  simp only [qEql, onIS_eq, onI_eq, onS_eq, cB_eq, bo_eq, nn_eq, eqF_eq, kIx_eq, sem, semBin]
  cases x <;> cases y <;> try rfl
  · rename_i t m u n
    by_cases h : t = u
    · subst h
      cases m <;> cases n <;> simp [binA, p1, obind, eqI]
    · simp [binA, h, p1, obind]
theorem qNeq_eq (x y : AV) : qNeq f x y = obind (p1 (sem (.bin .neq) c [x, y] b s)) f := by
  simp only [qNeq, onIS_eq, onI_eq, onS_eq, cB_eq, bo_eq, nn_eq, eqF_eq, kIx_eq, sem, semBin]
  cases x <;> cases y <;> try rfl
  · rename_i t m u n
    by_cases h : t = u
    · subst h
      cases m <;> cases n <;> simp [binA, p1, obind, eqI]
      rename_i m n
      by_cases h : m = n
      · subst h; simp
      · have e : Nat.beq m n = false := Bool.eq_false_iff.mpr (fun q => h (Nat.eq_of_beq_eq_true q))
        simp [e, h]
    · simp [binA, h, p1, obind]
  · rename_i l r
    simp only [binA, Option.map_some, p1, obind]
    cases eqN l r <;> rfl
theorem cmp_none {op : BinOp} (ho : op = .lss ∨ op = .leq ∨ op = .gtr ∨ op = .geq) (t : IntKind) (m : Int) (y : AV) (hy : ∀ u n, y ≠ .int u n) : binA op (.int t m) y = none := by
  cases y <;> first | (exfalso; exact hy _ _ rfl) | (rcases ho with rfl | rfl | rfl | rfl <;> rfl)
theorem cmp_ne {op : BinOp} (ho : op = .lss ∨ op = .leq ∨ op = .gtr ∨ op = .geq) {t u : IntKind} (h : t ≠ u) (m n : Int) : binA op (.int t m) (.int u n) = none := by
  rcases ho with rfl | rfl | rfl | rfl <;> simp [binA, h]
theorem qCmp_eq (op : BinOp) (g : Nat → Nat → Bool) (ho : op = .lss ∨ op = .leq ∨ op = .gtr ∨ op = .geq) (hg : ∀ (t : IntKind) (i j : Nat), binA op (.int t (.ofNat i)) (.int t (.ofNat j)) = some (.bool (g i j))) (x y : AV) : qCmp c b s f op g x y = obind (p1 (sem (.bin op) c [x, y] b s)) f := by
  simp only [qCmp, onI_eq, cB_eq, bo_eq, nn_eq, kIx_eq]
  cases x <;> try rfl
  rename_i t m
  cases y
  case int u n =>
    simp only
    by_cases h : t = u
    · subst h
      simp only [decide_true, if_true]
      cases m <;> cases n <;> try rfl
      rename_i i j
      simp only [sem, semBin, hg, Option.map_some, p1, obind]
    · simp only [h, decide_false, Bool.false_eq_true, if_false, sem, semBin, cmp_ne ho h, Option.map_none, p1, obind]
  all_goals (simp only [sem, semBin]; rw [cmp_none ho _ _ _ (by simp)]; rfl)
theorem wrap_small (t : IntKind) {r : Nat} (h : r < 128) : wrapA t (Int.ofNat r) = Int.ofNat r := by
  rw [wrapA_eq]
  cases t <;> simp [IntKind.wrap, IntKind.signed, IntKind.bits] <;> omega
theorem wrap_i64s {r : Nat} (h : r < 9223372036854775808) : wrapA .i64 (Int.ofNat r) = Int.ofNat r := by
  simp only [wrapA]
  rw [if_pos (by simpa using h)]
theorem kIx_3 (t : IntKind) : Nat.beq (kIx t) 3 = true → t = .i64 := by cases t <;> decide
theorem arith_none {op : BinOp} (ho : op = .add ∨ op = .sub) (t : IntKind) (m : Int) (y : AV) (hy : ∀ u n, y ≠ .int u n) : binA op (.int t m) y = none := by
  cases y <;> first | (exfalso; exact hy _ _ rfl) | (rcases ho with rfl | rfl <;> rfl)
theorem qAdd_eq (x y : AV) : qAdd c b s f x y = obind (p1 (sem (.bin .add) c [x, y] b s)) f := by
  simp only [qAdd, onI_eq, cB_eq, bo_eq, nn_eq, kIx_eq, natK_eq]
  cases x <;> try rfl
  rename_i t m
  cases y
  case int u n =>
    simp only
    by_cases h : t = u
    · subst h
      simp only [decide_true, if_true]
      cases m <;> cases n <;> try rfl
      rename_i i j
      dsimp only
      have e : ∀ r, Nat.add i j = r → wrapA t (Int.ofNat r) = Int.ofNat r → f (.int t (.ofNat r)) = obind (p1 (sem (.bin .add) c [.int t (.ofNat i), .int t (.ofNat j)] b s)) f := fun r hr hw => by
        subst hr
        simp only [sem, semBin, binA, if_true, addI, hw, Option.map_some, p1, obind]
      split
      · rename_i hl
        exact e _ rfl (wrap_small t (by simpa using hl))
      · split
        · rename_i hk
          have := kIx_3 t hk
          subst this
          split
          · rename_i hl
            exact e _ rfl (wrap_i64s (by simpa using hl))
          · rfl
        · rfl
    · simp only [h, decide_false, Bool.false_eq_true, if_false, sem, semBin, binA, Option.map_none, p1, obind]
  all_goals (simp only [sem, semBin]; rw [arith_none (.inl rfl) _ _ _ (by simp)]; rfl)
theorem qSub_eq (x y : AV) : qSub c b s f x y = obind (p1 (sem (.bin .sub) c [x, y] b s)) f := by
  simp only [qSub, onI_eq, cB_eq, bo_eq, nn_eq, kIx_eq, natK_eq]
  cases x <;> try rfl
  rename_i t m
  cases y
  case int u n =>
    simp only
    by_cases h : t = u
    · subst h
      simp only [decide_true, if_true]
      cases m <;> cases n <;> try rfl
      rename_i i j
      dsimp only
      split
      · rename_i hle
        have e : ∀ r, Nat.sub i j = r → wrapA t (Int.ofNat r) = Int.ofNat r → f (.int t (.ofNat r)) = obind (p1 (sem (.bin .sub) c [.int t (.ofNat i), .int t (.ofNat j)] b s)) f := fun r hr hw => by
          subst hr
          simp only [sem, semBin, binA, if_true, subI, hle, hw, Option.map_some, p1, obind]
        split
        · rename_i hl
          exact e _ rfl (wrap_small t (by simpa using hl))
        · split
          · rename_i hk
            have := kIx_3 t hk
            subst this
            split
            · rename_i hl
              exact e _ rfl (wrap_i64s (by simpa using hl))
            · rfl
          · rfl
      · rfl
    · simp only [h, decide_false, Bool.false_eq_true, if_false, sem, semBin, binA, Option.map_none, p1, obind]
  all_goals (simp only [sem, semBin]; rw [arith_none (.inr rfl) _ _ _ (by simp)]; rfl)
theorem qNot_eq (x : AV) : qNot f x = obind (p1 (sem (.un .not) c [x] b s)) f := by
  simp only [qNot, onB_eq, cB_eq, sem]
  cases x <;> try rfl
  rename_i y; cases y <;> rfl
theorem qPick_eq (x y z : AV) : qPick f x y z = obind (p1 (sem .pick c [x, y, z] b s)) f := by
  simp only [qPick, qPlain, onB_eq, cB_eq, sem]
  cases x <;> try rfl
  rename_i v
  cases v
  · simp only [semPick, Bool.false_eq_true, if_false]; split <;> rfl
  · simp only [semPick, if_true]; split <;> rfl
theorem qNil_eq (x : AV) : qNil c b s f x = obind (p1 (sem .nilchk c [x] b s)) f := by
  simp only [qNil, onPRL_eq]
  cases x <;> rfl
theorem qFad_eq (d : Nat) (x : AV) : qFad f d x = obind (p1 (sem (.fad d) c [x] b s)) f := by
  simp only [qFad, onPRL_eq, natK_eq, dropF_eq]
  cases x <;> rfl
theorem qTake_eq (ag : Bool) (n : Nat) (cs : List AV) : qTake f ag n cs = match takeVal ag n cs with | some v => f v | none => none := by
  simp only [qTake, cB_eq, headO_eq, lenF_eq, takeK_eq, mapW_eq, w1K_eq]
  cases ag
  · cases cs <;> rfl
  · simp only [takeVal, if_true]
    by_cases h : n ≤ cs.length
    · have e : Nat.ble n cs.length = true := by simpa using h
      simp only [e, h, if_true]
    · have e : Nat.ble n cs.length = false := Bool.eq_false_iff.mpr (fun q => h (Nat.le_of_ble_eq_true q))
      simp only [e, h, Bool.false_eq_true, if_false]
theorem cellsO_eq (x : Obj) (k : List AV → O) : cellsO x k = match x with | .cells cs => k cs | _ => none := by cases x <;> rfl
theorem map_p1 {x : Option AV} : obind (p1 (x.map fun v => (v, b, s))) f = match x with | some v => f v | none => none := by cases x <;> rfl
theorem qLdSt_eq (ag : Bool) (n : Nat) (x : AV) : qLdSt s f ag n x = obind (p1 (sem (.ldSt ag n) c [x] b s)) f := by
  simp only [qLdSt, onP_eq, nthO_eq, cellsO_eq, qTake_eq, dropF_eq]
  cases x <;> try rfl
  rename_i o i
  simp only [sem, semLdSt]
  cases s[o]? with
  | none => rfl
  | some ob => cases ob <;> first | rfl | exact (map_p1 b s f).symm
theorem qLdRo_eq (ag : Bool) (n : Nat) (x : AV) : qLdRo f ag n x = obind (p1 (sem (.ldRo ag n) c [x] b s)) f := by
  simp only [qLdRo, onR_eq, qTake_eq]
  cases x <;> try rfl
  exact (map_p1 b s f).symm
theorem qLdLc_eq (i : Nat) (ag : Bool) (n : Nat) (x : AV) : qLdLc b f i ag n x = obind (p1 (sem (.ldLc i ag n) c [x] b s)) f := by
  simp only [qLdLc, onLc_eq, onBx_eq, qTake_eq, dropF_eq, cB_eq]
  cases x <;> try rfl
  rename_i j off
  cases b <;> try rfl
  rename_i cs
  simp only [sem, semLdLc]
  by_cases h : i = j
  · simp only [h, Nat.beq_refl, if_true]
    exact (map_p1 _ s f).symm
  · have : Nat.beq i j = false := Bool.eq_false_iff.mpr (fun q => h (Nat.eq_of_beq_eq_true q))
    simp only [this, h, Bool.false_eq_true, if_false]
    rfl
theorem qLenS_eq (x : AV) : qLenS f x = obind (p1 (sem .lenS c [x] b s)) f := by
  simp only [qLenS, onS_eq, natK_eq, lenF_eq]
  cases x <;> rfl
theorem qLenL_eq (x : AV) : qLenL c b s f x = obind (p1 (sem .lenL c [x] b s)) f := by
  simp only [qLenL, onL_eq, natK_eq, lenF_eq]
  cases x <;> rfl
theorem qIdx_eq (x y : AV) : qIdx f x y = obind (p1 (sem .idxS c [x, y] b s)) f := by
  simp only [qIdx, onS_eq, onI_eq, atO_eq]
  cases x <;> try rfl
  cases y <;> try rfl
  rename_i l k n
  simp only [sem, semIdxS]
  cases n with
  | ofNat i =>
    have e : (Int.ofNat i).toNat = i := rfl
    simp only [Int.ofNat_eq_natCast, Int.natCast_nonneg, if_true, Int.toNat_natCast]
    cases l[i]? <;> rfl
  | negSucc i => rfl
theorem qIad_eq (sz : Nat) (x y : AV) : qIad c b s f sz x y = obind (p1 (sem (.iad sz) c [x, y] b s)) f := by
  simp only [qIad, onL_eq, onI_eq, atO_eq, cB_eq, lenF_eq]
  cases x <;> try rfl
  cases y <;> try rfl
  rename_i w l k n
  simp only [sem, semIad]
  cases n with
  | ofNat i =>
    simp only [Int.ofNat_eq_natCast, Int.natCast_nonneg, if_true, Int.toNat_natCast]
    cases l[i]? with
    | none => rfl
    | some r =>
      by_cases h : r.length = sz
      · have : Nat.beq r.length sz = true := by rw [h]; exact Nat.beq_refl sz
        simp only [this, if_true, if_pos h]
        rfl
      · have : Nat.beq r.length sz = false := Bool.eq_false_iff.mpr (fun q => h (Nat.eq_of_beq_eq_true q))
        simp only [this, h, Bool.false_eq_true, if_false]
        rfl
  | negSucc i => rfl
end
end Go.Cb.F
/-
  THE ABSTRACT MACHINE, part 39: the operations in two ways, and pieces of code by them (printed by gen39.py).
-/
set_option maxRecDepth 4000
set_option linter.unusedVariables false
namespace Go.Cb.F
open Go Go.Cb
noncomputable def qSb (x : AV) (k : AV → AV → O) : O := AV.rec (motive_1 := fun _ => O) (motive_2 := fun _ => Unit) (motive_3 := fun _ => Unit)
  (k .undef .undef)
  (fun b => k (.bool b) (.bool b))
  (fun t n => k (.int t n) (.int t n))
  (fun s => k (.str s) (.str s))
  (fun o xs _ => k (.list o xs) (.list false xs))
  (fun o f => k (.ptr o f) (.ptr o f))
  (k .nilp .nilp)
  (fun cs _ => k (.ro cs) (.ro cs))
  (fun i f => k (.loc i f) (.loc i f))
  (fun cs _ => k .undef .undef)
  (fun o => k (.map o) (.map o))
  (k .nilm .nilm)
  (fun f a c _ _ => k (.func f a c) (.func f a c))
  (k .nilf .nilf)
  (fun cs _ => k (.agg cs) (.agg (cs.map AV.weak1)))
  (fun vs _ => k (.tuple vs) (.tuple vs))
  (fun t v _ => k (.iface t v) (.iface t v))
  (k .nili .nili)
  (fun o f n s => k (.sl o f n s) (.sl o f n s))
  (fun xs _ => k (.fresh xs) (.fresh xs))
  () (fun _ _ _ _ => ()) () (fun _ _ _ _ => ()) x
noncomputable def qSv (x : AV) (k : AV → AV → O) : O := AV.rec (motive_1 := fun _ => O) (motive_2 := fun _ => Unit) (motive_3 := fun _ => Unit)
  (k .undef .undef)
  (fun b => k (.bool b) (.bool b))
  (fun t n => k (.int t n) (.int t n))
  (fun s => k (.str s) (.str s))
  (fun o xs _ => k (.list o xs) (.list false xs))
  (fun o f => k (.ptr o f) (.ptr o f))
  (k .nilp .nilp)
  (fun cs _ => k (.ro cs) (.ro cs))
  (fun i f => k .undef .undef)
  (fun cs _ => k .undef .undef)
  (fun o => k (.map o) (.map o))
  (k .nilm .nilm)
  (fun f a c _ _ => k (.func f a c) (.func f a c))
  (k .nilf .nilf)
  (fun cs _ => k (.agg cs) (.agg (cs.map AV.weak1)))
  (fun vs _ => k (.tuple vs) (.tuple vs))
  (fun t v _ => k (.iface t v) (.iface t v))
  (k .nili .nili)
  (fun o f n s => k (.sl o f n s) (.sl o f n s))
  (fun xs _ => k (.fresh xs) (.fresh xs))
  () (fun _ _ _ _ => ()) () (fun _ _ _ _ => ()) x
noncomputable def qWk (x : AV) (k : AV → O) : O := AV.rec (motive_1 := fun _ => O) (motive_2 := fun _ => Unit) (motive_3 := fun _ => Unit)
  (k .undef)
  (fun b => k (.bool b))
  (fun t n => k (.int t n))
  (fun s => k (.str s))
  (fun o xs _ => k (.list false xs))
  (fun o f => k (.ptr o f))
  (k .nilp)
  (fun cs _ => k (.ro cs))
  (fun i f => k (.loc i f))
  (fun cs _ => k (.box cs))
  (fun o => k (.map o))
  (k .nilm)
  (fun f a c _ _ => k (.func f a c))
  (k .nilf)
  (fun cs _ => k (.agg (cs.map AV.weak1)))
  (fun vs _ => k (.tuple vs))
  (fun t v _ => k (.iface t v))
  (k .nili)
  (fun o f n s => k (.sl o f n s))
  (fun xs _ => k (.fresh xs))
  () (fun _ _ _ _ => ()) () (fun _ _ _ _ => ()) x
theorem qSb_eq (x : AV) (k : AV → AV → O) : qSb x k = k (AV.stripB x) (AV.weak (AV.stripB x)) := by cases x <;> rfl
theorem qSv_eq (x : AV) (k : AV → AV → O) : qSv x k = k (AV.strip x) (AV.weak (AV.strip x)) := by cases x <;> rfl
theorem qWk_eq (x : AV) (k : AV → O) : qWk x k = k (AV.weak x) := by cases x <;> rfl
noncomputable def onT (x : AV) (k : List AV → O) : O := AV.rec (motive_1 := fun _ => O) (motive_2 := fun _ => Unit) (motive_3 := fun _ => Unit)
  (none)
  (fun b => none)
  (fun t n => none)
  (fun s => none)
  (fun o xs _ => none)
  (fun o f => none)
  (none)
  (fun cs _ => none)
  (fun i f => none)
  (fun cs _ => none)
  (fun o => none)
  (none)
  (fun f a c _ _ => none)
  (none)
  (fun cs _ => none)
  (fun vs _ => k vs)
  (fun t v _ => none)
  (none)
  (fun o f n s => none)
  (fun xs _ => none)
  () (fun _ _ _ _ => ()) () (fun _ _ _ _ => ()) x
theorem onT_eq (x : AV) (k : List AV → O) : onT x k = match x with | .tuple vs => k vs | _ => none := by cases x <;> rfl
noncomputable def onLo (x : AV) (e : O) (k : Bool → List (List AV) → O) : O := AV.rec (motive_1 := fun _ => O) (motive_2 := fun _ => Unit) (motive_3 := fun _ => Unit)
  (e)
  (fun b => e)
  (fun t n => e)
  (fun s => e)
  (fun o xs _ => k o xs)
  (fun o f => e)
  (e)
  (fun cs _ => e)
  (fun i f => e)
  (fun cs _ => e)
  (fun o => e)
  (e)
  (fun f a c _ _ => e)
  (e)
  (fun cs _ => e)
  (fun vs _ => e)
  (fun t v _ => e)
  (e)
  (fun o f n s => e)
  (fun xs _ => e)
  () (fun _ _ _ _ => ()) () (fun _ _ _ _ => ()) x
theorem onLo_eq (x : AV) (e : O) (k : Bool → List (List AV) → O) : onLo x e k = match x with | .list o xs => k o xs | _ => e := by cases x <;> rfl
noncomputable def onU (x : AV) (k : O) : O := AV.rec (motive_1 := fun _ => O) (motive_2 := fun _ => Unit) (motive_3 := fun _ => Unit)
  (k)
  (fun b => none)
  (fun t n => none)
  (fun s => none)
  (fun o xs _ => none)
  (fun o f => none)
  (none)
  (fun cs _ => none)
  (fun i f => none)
  (fun cs _ => none)
  (fun o => none)
  (none)
  (fun f a c _ _ => none)
  (none)
  (fun cs _ => none)
  (fun vs _ => none)
  (fun t v _ => none)
  (none)
  (fun o f n s => none)
  (fun xs _ => none)
  () (fun _ _ _ _ => ()) () (fun _ _ _ _ => ()) x
theorem onU_eq (x : AV) (k : O) : onU x k = match x with | .undef => k | _ => none := by cases x <;> rfl
noncomputable def onC (x : AV) (k : List AV → O) : O := AV.rec (motive_1 := fun _ => O) (motive_2 := fun _ => Unit) (motive_3 := fun _ => Unit)
  (k [.undef])
  (fun b => k [(.bool b)])
  (fun t n => k [(.int t n)])
  (fun s => k [(.str s)])
  (fun o xs _ => k [(.list o xs)])
  (fun o f => k [(.ptr o f)])
  (k [.nilp])
  (fun cs _ => k [(.ro cs)])
  (fun i f => k [(.loc i f)])
  (fun cs _ => k [(.box cs)])
  (fun o => k [(.map o)])
  (k [.nilm])
  (fun f a c _ _ => k [(.func f a c)])
  (k [.nilf])
  (fun cs _ => k cs)
  (fun vs _ => k [(.tuple vs)])
  (fun t v _ => k [(.iface t v)])
  (k [.nili])
  (fun o f n s => k [(.sl o f n s)])
  (fun xs _ => k [(.fresh xs)])
  () (fun _ _ _ _ => ()) () (fun _ _ _ _ => ()) x
theorem onC_eq (x : AV) (k : List AV → O) : onC x k = k x.cells := by cases x <;> rfl
/-- may it stand among arguments? -/
noncomputable def plB (x : AV) (k : O) : O := AV.rec (motive_1 := fun _ => O) (motive_2 := fun _ => Unit) (motive_3 := fun _ => Unit)
  (none)
  (fun b => k)
  (fun t n => k)
  (fun s => k)
  (fun o xs _ => k)
  (fun o f => k)
  (k)
  (fun cs _ => k)
  (fun i f => none)
  (fun cs _ => none)
  (fun o => k)
  (k)
  (fun f a c _ _ => k)
  (k)
  (fun cs _ => k)
  (fun vs _ => none)
  (fun t v _ => k)
  (k)
  (fun o f n s => k)
  (fun xs _ => none)
  () (fun _ _ _ _ => ()) () (fun _ _ _ _ => ()) x
theorem plB_eq (x : AV) (k : O) : plB x k = if x.plain then k else none := by cases x <;> rfl
/-- a part of a tuple -/
noncomputable def qExt (f : AV → O) (d : Nat) (x : AV) : O := onT x fun vs => nthO vs none (fun v => qWk v f) d
theorem qExt_eq (c : CallT) (b : AV) (s : St) (f : AV → O) (d : Nat) (x : AV) : qExt f d x = obind (p1 (sem (.ext d) c [x] b s)) f := by
  simp only [qExt, onT_eq, nthO_eq, qWk_eq]
  cases x <;> try rfl
  rename_i vs
  simp only [sem, semExt]
  cases vs[d]? <;> rfl
noncomputable def plainL (xs : List AV) (k : List AV → O) : O := List.rec (motive := fun _ => (List AV → O) → O) (fun k => k []) (fun a _ ih k => plB a (qWk a fun w => ih fun ws => k (w :: ws))) xs k
theorem plainL_eq : ∀ (xs : List AV) (k : List AV → O), plainL xs k = if allPlain xs then k (xs.map AV.weak) else none
  | [], k => rfl
  | a :: xs, k => by
    show plB a (qWk a fun w => plainL xs fun ws => k (w :: ws)) = _
    rw [plB_eq, qWk_eq, plainL_eq xs]
    simp only [allPlain, Bool.and_eq_true, List.map_cons]
    by_cases h1 : a.plain = true <;> by_cases h2 : allPlain xs = true <;> simp [h1, h2]
noncomputable def onR2 (x : Option (AV × St)) (k : AV → St → O) : O := Option.rec (motive := fun _ => O) none (fun p => Prod.rec (motive := fun _ => O) (fun v s => k v s) p) x
theorem onR2_eq (x : Option (AV × St)) (k : AV → St → O) : onR2 x k = match x with | some (v, s) => k v s | none => none := by cases x <;> rfl
noncomputable def qCall (c : CallT) (s : St) (f : AV × St → O) (i : Nat) (xs : List AV) : O := plainL xs fun ws => onR2 (c i ws s) fun v s => f (v, s)
theorem qCall_eq (c : CallT) (b : AV) (s : St) (f : AV × St → O) (i : Nat) (xs : List AV) : qCall c s f i xs = obind (p2 (sem (.call i) c xs b s)) f := by
  simp only [qCall, plainL_eq, onR2_eq, sem, semCall]
  split
  · cases c i (xs.map AV.weak) s <;> rfl
  · rfl
noncomputable def qSlS (c : CallT) (b : AV) (s : St) (f : AV → O) (x y z : AV) : O := onS x none fun l => onI z none fun _ m => onI y (obind (p1 (sem (.slS true true) c [x, y, z] b s)) f) fun _ i => nn i m (obind (p1 (sem (.slS true true) c [x, y, z] b s)) f) fun i m =>
  cB (Nat.ble m (lenF l)) (cB (Nat.ble i m) (takeK (Nat.sub m i) (dropC i l) fun r => f (.str r)) none) none
theorem qSlS_eq (c : CallT) (b : AV) (s : St) (f : AV → O) (x y z : AV) : qSlS c b s f x y z = obind (p1 (sem (.slS true true) c [x, y, z] b s)) f := by
  simp only [qSlS, onS_eq, onI_eq, nn_eq, cB_eq, takeK_eq, dropC_eq, lenF_eq]
  cases x <;> try rfl
  cases z <;> try rfl
  cases y <;> try rfl
  rename_i l _ m _ i
  cases i <;> cases m <;> try rfl
  rename_i i m
  simp only [sem, semSlS, bounds, bound, Int.ofNat_eq_natCast, Int.natCast_nonneg, true_and, Int.toNat_natCast, Int.ofNat_le, Nat.ble_eq]
  by_cases h1 : m ≤ l.length
  · simp only [h1, if_true]
    by_cases h2 : i ≤ m
    · simp only [h2, if_true, Option.map_some, p1, obind]
      rw [List.drop_take]
      rfl
    · simp only [h2, if_false]
      rfl
  · simp only [h1, if_false]
    rfl
noncomputable def rowsQ (sz : Nat) (l : List (List AV)) : Bool := List.rec (motive := fun _ => Bool) true (fun r _ _ => Nat.beq (lenF r) sz) l
theorem rowsQ_eq (sz : Nat) (l : List (List AV)) : rowsQ sz l = rowsOk sz l := by
  cases l with
  | nil => rfl
  | cons r l =>
    show Nat.beq (lenF r) sz = (r.length == sz)
    rw [lenF_eq, Bool.eq_iff_iff]
    simp
noncomputable def qApp (b : AV) (s : St) (f : AV × AV × St → O) (d e : Nat) (x y : AV) : O := onLo x none fun o xs => onL y none fun ys => cB o (cB (rowsQ d xs) (cB (rowsQ d ys) (cB (Nat.ble (Nat.mul (Nat.add (lenF xs) (lenF ys)) e) 140737488355328) (appK xs ys fun r => f (.list true r, b, s)) none) none) none) none
theorem qApp_eq (c : CallT) (b : AV) (s : St) (f : AV × AV × St → O) (d e : Nat) (x y : AV) : qApp b s f d e x y = obind (sem (.app d e) c [x, y] b s) f := by
  simp only [qApp, onLo_eq, onL_eq, cB_eq, rowsQ_eq, lenF_eq, appK_eq]
  cases x <;> try rfl
  rename_i o xs
  cases y <;> try (cases o <;> rfl)
  rename_i o2 ys
  cases o <;> try rfl
  simp only [sem, semApp, if_true]
  have e1 : (Nat.ble (Nat.mul (Nat.add xs.length ys.length) e) 140737488355328) = decide ((xs.length + ys.length) * e ≤ 2 ^ 47) := by
    rw [Bool.eq_iff_iff]
    simp
  rw [e1]
  cases rowsOk d xs <;> cases rowsOk d ys <;> try rfl
  simp only [Bool.true_and, if_true]
  split <;> rfl
noncomputable def qAlloc (b : AV) (s : St) (f : AV × AV × St → O) (d : List AV) : O := onU b (f (.undef, .box d, s))
theorem qAlloc_eq (c : CallT) (b : AV) (s : St) (f : AV × AV × St → O) (d : List AV) : qAlloc b s f d = obind (sem (.alloc d) c [] b s) f := by
  simp only [qAlloc, onU_eq]
  cases b <;> rfl
/-- new cells in the place of others, reckoned out -/
noncomputable def segK (cs : List AV) (off : Nat) (new : List AV) (k : List AV → O) : O := takeK off cs fun a => appK new (dropF (Nat.add off (lenF new)) cs) fun t => appK a t k
theorem segK_eq (cs : List AV) (off : Nat) (new : List AV) (k : List AV → O) : segK cs off new k = k (setSeg cs off new) := by
  simp only [segK, takeK_eq, appK_eq, dropF_eq, lenF_eq, setSeg, List.append_assoc]
  rfl
noncomputable def qStLc (b : AV) (s : St) (f : AV × AV × St → O) (i d : Nat) (x y : AV) : O := onLc x none fun j off => onBx b none fun cs => cB (Nat.beq i j) (plB y (onC y fun new => cB (Nat.beq (lenF new) d) (cB (Nat.ble (Nat.add off d) (lenF cs)) (segK cs off new fun r => f (.tuple [], .box r, s)) none) none)) none
theorem beq_d (a b : Nat) : (Nat.beq a b = true) = (a = b) := by simp
theorem ble_d (a b : Nat) : (Nat.ble a b = true) = (a ≤ b) := by simp
theorem qStLc_eq (c : CallT) (b : AV) (s : St) (f : AV × AV × St → O) (i d : Nat) (x y : AV) : qStLc b s f i d x y = obind (sem (.stLc i d) c [x, y] b s) f := by
  simp only [qStLc, onLc_eq, onBx_eq, cB_eq, plB_eq, onC_eq, lenF_eq, segK_eq, beq_d, ble_d]
  cases x <;> try rfl
  rename_i j off
  cases b <;> try rfl
  rename_i cs
  simp only [sem, semStLc]
  by_cases h1 : i = j <;> by_cases h2 : y.plain = true <;> by_cases h3 : y.cells.length = d <;> by_cases h4 : off + d ≤ cs.length <;> simp [h1, h2, h3, h4, obind]
noncomputable def setK {β : Type} (l : List β) (i : Nat) (x : β) (k : List β → O) : O := List.rec (motive := fun _ => Nat → (List β → O) → O) (fun _ k => k []) (fun a t ih i k => Nat.rec (motive := fun _ => O) (k (x :: t)) (fun j _ => ih j fun r => k (a :: r)) i) l i k
theorem setK_eq {β : Type} (x : β) : ∀ (l : List β) (i : Nat) (k : List β → O), setK l i x k = k (l.set i x)
  | [], _, _ => rfl
  | a :: l, 0, k => rfl
  | a :: l, i + 1, k => setK_eq x l i fun r => k (a :: r)
noncomputable def qStSt (s : St) (f : AV × St → O) (d : Nat) (x y : AV) : O := onP x none fun o off => nthO s none (fun ob => cellsO ob fun cs => plB y (onC y fun new => cB (Nat.beq (lenF new) d) (cB (Nat.ble (Nat.add off d) (lenF cs)) (segK cs off new fun r => setK s o (.cells r) fun s => f (.tuple [], s)) none) none)) o
theorem qStSt_eq (c : CallT) (b : AV) (s : St) (f : AV × St → O) (d : Nat) (x y : AV) : qStSt s f d x y = obind (p2 (sem (.stSt d) c [x, y] b s)) f := by
  simp only [qStSt, onP_eq, nthO_eq, cellsO_eq, cB_eq, plB_eq, onC_eq, lenF_eq, segK_eq, setK_eq, beq_d, ble_d]
  cases x <;> try rfl
  rename_i o off
  simp only [sem, semStSt, fL_eq]
  cases s[o]? with
  | none => rfl
  | some ob =>
    cases ob <;> try rfl
    rename_i cs
    by_cases h2 : y.plain = true <;> by_cases h3 : y.cells.length = d <;> by_cases h4 : off + d ≤ cs.length <;> simp [h2, h3, h4, obind, p2]
/-- under a guard -/
def gF (q : AV) (w : Bool) (op : (AV → O) → O) (f : AV → O) : O := match q with
  | .bool v => if v == w then op f else f (.tuple [])
  | .tuple [] => f (.tuple [])
  | _ => none
def gF2 (q : AV) (w : Bool) (s : St) (op : (AV × St → O) → O) (f : AV × St → O) : O := match q with
  | .bool v => if v == w then op f else f (.tuple [], s)
  | .tuple [] => f (.tuple [], s)
  | _ => none
noncomputable def bW (v w : Bool) (x y : O) : O := Bool.rec (motive := fun _ => O) (Bool.rec (motive := fun _ => O) x y w) (Bool.rec (motive := fun _ => O) y x w) v
theorem bW_eq (v w : Bool) (x y : O) : bW v w x y = if v == w then x else y := by cases v <;> cases w <;> rfl
noncomputable def qG (q : AV) (w : Bool) (op : (AV → O) → O) (f : AV → O) : O := onBT q none (fun v => bW v w (op f) (f (.tuple []))) (fun vs => List.rec (motive := fun _ => O) (f (.tuple [])) (fun _ _ _ => none) vs)
theorem qG_eq (q : AV) (w : Bool) (op : (AV → O) → O) (f : AV → O) : qG q w op f = gF q w op f := by
  simp only [qG, onBT_eq, bW_eq]
  cases q <;> try rfl
  rename_i vs; cases vs <;> rfl
noncomputable def qG2 (q : AV) (w : Bool) (s : St) (op : (AV × St → O) → O) (f : AV × St → O) : O := onBT q none (fun v => bW v w (op f) (f (.tuple [], s))) (fun vs => List.rec (motive := fun _ => O) (f (.tuple [], s)) (fun _ _ _ => none) vs)
theorem qG2_eq (q : AV) (w : Bool) (s : St) (op : (AV × St → O) → O) (f : AV × St → O) : qG2 q w s op f = gF2 q w s op f := by
  simp only [qG2, onBT_eq, bW_eq]
  cases q <;> try rfl
  rename_i vs; cases vs <;> rfl
theorem gen_eq (k : Kind) (c : CallT) (b : AV) (s : St) (f : AV → O) (xs : List AV) : (obind (p1 (sem k c xs b s)) fun x => fNew x f) = obind (p1 (sem k c xs b s)) f := by simp only [fNew_eq]
theorem gen2_eq (k : Kind) (c : CallT) (b : AV) (s : St) (f : AV × St → O) (xs : List AV) : (obind (p2 (sem k c xs b s)) fun x => fNew x.1 fun v => fL x.2 fun s => f (v, s)) = obind (p2 (sem k c xs b s)) f := by simp only [fNew_eq, fL_eq]
theorem gen3_eq (k : Kind) (c : CallT) (b : AV) (s : St) (f : AV × AV × St → O) (xs : List AV) : (obind (sem k c xs b s) fun x => fNew x.1 fun v => fNew x.2.1 fun b => fL x.2.2 fun s => f (v, b, s)) = obind (sem k c xs b s) f := by simp only [fNew_eq, fL_eq]
theorem nb (i j : Nat) : (!Nat.blt j i) = Nat.ble i j := by
  have h1 : (Nat.blt j i = true) ↔ j < i := by simp
  have h2 : (Nat.ble i j = true) ↔ i ≤ j := by simp
  cases hb : Nat.blt j i <;> cases hc : Nat.ble i j <;> simp only [hb, hc, true_iff, false_iff, Bool.false_eq_true] at h1 h2 <;> first | rfl | omega
theorem lss_eq (c : CallT) (b : AV) (s : St) (f : AV → O) (x y : AV) : qCmp c b s f .lss Nat.blt x y = obind (p1 (sem (.bin .lss) c [x, y] b s)) f := qCmp_eq c b s f .lss _ (by simp) (fun t i j => by simp [binA, ltI]) x y
theorem leq_eq (c : CallT) (b : AV) (s : St) (f : AV → O) (x y : AV) : qCmp c b s f .leq Nat.ble x y = obind (p1 (sem (.bin .leq) c [x, y] b s)) f := qCmp_eq c b s f .leq _ (by simp) (fun t i j => by simp only [binA, if_true, Int.ofNat_eq_natCast]; rw [show ∀ a b : Nat, ltI (a : Int) (b : Int) = Nat.blt a b from fun _ _ => rfl, nb]) x y
theorem gtr_eq (c : CallT) (b : AV) (s : St) (f : AV → O) (x y : AV) : qCmp c b s f .gtr (fun i j => Nat.blt j i) x y = obind (p1 (sem (.bin .gtr) c [x, y] b s)) f := qCmp_eq c b s f .gtr _ (by simp) (fun t i j => by simp [binA, ltI]) x y
theorem geq_eq (c : CallT) (b : AV) (s : St) (f : AV → O) (x y : AV) : qCmp c b s f .geq (fun i j => Nat.ble j i) x y = obind (p1 (sem (.bin .geq) c [x, y] b s)) f := qCmp_eq c b s f .geq _ (by simp) (fun t i j => by simp only [binA, if_true, Int.ofNat_eq_natCast]; rw [show ∀ a b : Nat, ltI (a : Int) (b : Int) = Nat.blt a b from fun _ _ => rfl, nb]) x y

/-- the operations, in one way or another -/
structure Pr where
  eql : CallT → AV → St → AV → AV → (AV → O) → O
  neq : CallT → AV → St → AV → AV → (AV → O) → O
  lss : CallT → AV → St → AV → AV → (AV → O) → O
  leq : CallT → AV → St → AV → AV → (AV → O) → O
  gtr : CallT → AV → St → AV → AV → (AV → O) → O
  geq : CallT → AV → St → AV → AV → (AV → O) → O
  add : CallT → AV → St → AV → AV → (AV → O) → O
  sub : CallT → AV → St → AV → AV → (AV → O) → O
  nt : CallT → AV → St → AV → (AV → O) → O
  nil : CallT → AV → St → AV → (AV → O) → O
  lenS : CallT → AV → St → AV → (AV → O) → O
  lenL : CallT → AV → St → AV → (AV → O) → O
  idx : CallT → AV → St → AV → AV → (AV → O) → O
  pick : CallT → AV → St → AV → AV → AV → (AV → O) → O
  fad : Nat → CallT → AV → St → AV → (AV → O) → O
  iad : Nat → CallT → AV → St → AV → AV → (AV → O) → O
  ldSt : Bool → Nat → CallT → AV → St → AV → (AV → O) → O
  ldRo : Bool → Nat → CallT → AV → St → AV → (AV → O) → O
  ldLc : Nat → Bool → Nat → CallT → AV → St → AV → (AV → O) → O
  ext : Nat → CallT → AV → St → AV → (AV → O) → O
  slS : CallT → AV → St → AV → AV → AV → (AV → O) → O
  mv : AV → (AV → O) → O
  call : Nat → CallT → List AV → AV → St → (AV × St → O) → O
  app : Nat → Nat → CallT → AV → St → AV → AV → (AV × AV × St → O) → O
  alloc : List AV → CallT → AV → St → (AV × AV × St → O) → O
  stLc : Nat → Nat → CallT → AV → St → AV → AV → (AV × AV × St → O) → O
  stSt : Nat → CallT → AV → St → AV → AV → (AV × St → O) → O
  mv3 : CallT → AV → St → AV → (AV × AV × St → O) → O
  gen : Kind → CallT → List AV → AV → St → (AV → O) → O
  gen2 : Kind → CallT → List AV → AV → St → (AV × St → O) → O
  gen3 : Kind → CallT → List AV → AV → St → (AV × AV × St → O) → O
  g1 : AV → Bool → ((AV → O) → O) → (AV → O) → O
  g2 : AV → Bool → St → ((AV × St → O) → O) → (AV × St → O) → O
  sb : AV → (AV → AV → O) → O
  sv : AV → (AV → AV → O) → O
  wk : AV → (AV → O) → O
def slow : Pr where
  eql c b s x y f := obind (p1 (sem (.bin .eql) c [x, y] b s)) f
  neq c b s x y f := obind (p1 (sem (.bin .neq) c [x, y] b s)) f
  lss c b s x y f := obind (p1 (sem (.bin .lss) c [x, y] b s)) f
  leq c b s x y f := obind (p1 (sem (.bin .leq) c [x, y] b s)) f
  gtr c b s x y f := obind (p1 (sem (.bin .gtr) c [x, y] b s)) f
  geq c b s x y f := obind (p1 (sem (.bin .geq) c [x, y] b s)) f
  add c b s x y f := obind (p1 (sem (.bin .add) c [x, y] b s)) f
  sub c b s x y f := obind (p1 (sem (.bin .sub) c [x, y] b s)) f
  nt c b s x f := obind (p1 (sem (.un .not) c [x] b s)) f
  nil c b s x f := obind (p1 (sem .nilchk c [x] b s)) f
  lenS c b s x f := obind (p1 (sem .lenS c [x] b s)) f
  lenL c b s x f := obind (p1 (sem .lenL c [x] b s)) f
  idx c b s x y f := obind (p1 (sem .idxS c [x, y] b s)) f
  pick c b s x y z f := obind (p1 (sem .pick c [x, y, z] b s)) f
  fad d c b s x f := obind (p1 (sem (.fad d) c [x] b s)) f
  iad d c b s x y f := obind (p1 (sem (.iad d) c [x, y] b s)) f
  ldSt g d c b s x f := obind (p1 (sem (.ldSt g d) c [x] b s)) f
  ldRo g d c b s x f := obind (p1 (sem (.ldRo g d) c [x] b s)) f
  ldLc i g d c b s x f := obind (p1 (sem (.ldLc i g d) c [x] b s)) f
  ext d c b s x f := obind (p1 (sem (.ext d) c [x] b s)) f
  slS c b s x y z f := obind (p1 (sem (.slS true true) c [x, y, z] b s)) f
  mv a f := m1 a f
  call i c xs b s f := obind (p2 (sem (.call i) c xs b s)) f
  app d e c b s x y f := obind (sem (.app d e) c [x, y] b s) f
  alloc d c b s f := obind (sem (.alloc d) c [] b s) f
  stLc i d c b s x y f := obind (sem (.stLc i d) c [x, y] b s) f
  stSt d c b s x y f := obind (p2 (sem (.stSt d) c [x, y] b s)) f
  mv3 c b s x f := obind (sem .mv c [x] b s) f
  gen k c xs b s f := obind (p1 (sem k c xs b s)) f
  gen2 k c xs b s f := obind (p2 (sem k c xs b s)) f
  gen3 k c xs b s f := obind (sem k c xs b s) f
  g1 q w op f := gF q w op f
  g2 q w s op f := gF2 q w s op f
  sb x k := k (AV.stripB x) (AV.weak (AV.stripB x))
  sv x k := k (AV.strip x) (AV.weak (AV.strip x))
  wk x k := k (AV.weak x)
noncomputable def fast : Pr where
  eql c b s x y f := qEql f x y
  neq c b s x y f := qNeq f x y
  lss c b s x y f := qCmp c b s f .lss Nat.blt x y
  leq c b s x y f := qCmp c b s f .leq Nat.ble x y
  gtr c b s x y f := qCmp c b s f .gtr (fun i j => Nat.blt j i) x y
  geq c b s x y f := qCmp c b s f .geq (fun i j => Nat.ble j i) x y
  add c b s x y f := qAdd c b s f x y
  sub c b s x y f := qSub c b s f x y
  nt c b s x f := qNot f x
  nil c b s x f := qNil c b s f x
  lenS c b s x f := qLenS f x
  lenL c b s x f := qLenL c b s f x
  idx c b s x y f := qIdx f x y
  pick c b s x y z f := qPick f x y z
  fad d c b s x f := qFad f d x
  iad d c b s x y f := qIad c b s f d x y
  ldSt g d c b s x f := qLdSt s f g d x
  ldRo g d c b s x f := qLdRo f g d x
  ldLc i g d c b s x f := qLdLc b f i g d x
  ext d c b s x f := qExt f d x
  slS c b s x y z f := qSlS c b s f x y z
  mv a f := f a
  call i c xs b s f := qCall c s f i xs
  app d e c b s x y f := qApp b s f d e x y
  alloc d c b s f := qAlloc b s f d
  stLc i d c b s x y f := qStLc b s f i d x y
  stSt d c b s x y f := qStSt s f d x y
  mv3 c b s x f := f (x, b, s)
  gen k c xs b s f := obind (p1 (sem k c xs b s)) fun x => fNew x f
  gen2 k c xs b s f := obind (p2 (sem k c xs b s)) fun x => fNew x.1 fun v => fL x.2 fun s => f (v, s)
  gen3 k c xs b s f := obind (sem k c xs b s) fun x => fNew x.1 fun v => fNew x.2.1 fun b => fL x.2.2 fun s => f (v, b, s)
  g1 q w op f := qG q w op f
  g2 q w s op f := qG2 q w s op f
  sb x k := qSb x k
  sv x k := qSv x k
  wk x k := qWk x k
theorem Pr.eq_of {p q : Pr} (h0 : p.eql = q.eql) (h1 : p.neq = q.neq) (h2 : p.lss = q.lss) (h3 : p.leq = q.leq) (h4 : p.gtr = q.gtr) (h5 : p.geq = q.geq) (h6 : p.add = q.add) (h7 : p.sub = q.sub) (h8 : p.nt = q.nt) (h9 : p.nil = q.nil) (h10 : p.lenS = q.lenS) (h11 : p.lenL = q.lenL) (h12 : p.idx = q.idx) (h13 : p.pick = q.pick) (h14 : p.fad = q.fad) (h15 : p.iad = q.iad) (h16 : p.ldSt = q.ldSt) (h17 : p.ldRo = q.ldRo) (h18 : p.ldLc = q.ldLc) (h19 : p.ext = q.ext) (h20 : p.slS = q.slS) (h21 : p.mv = q.mv) (h22 : p.call = q.call) (h23 : p.app = q.app) (h24 : p.alloc = q.alloc) (h25 : p.stLc = q.stLc) (h26 : p.stSt = q.stSt) (h27 : p.mv3 = q.mv3) (h28 : p.gen = q.gen) (h29 : p.gen2 = q.gen2) (h30 : p.gen3 = q.gen3) (h31 : p.g1 = q.g1) (h32 : p.g2 = q.g2) (h33 : p.sb = q.sb) (h34 : p.sv = q.sv) (h35 : p.wk = q.wk) : p = q := by
  cases p; cases q; dsimp only at *; subst_vars; rfl
theorem fast_eq : fast = slow := Pr.eq_of
  (by funext c b s x y f; exact qEql_eq c b s f x y)
  (by funext c b s x y f; exact qNeq_eq c b s f x y)
  (by funext c b s x y f; exact lss_eq c b s f x y)
  (by funext c b s x y f; exact leq_eq c b s f x y)
  (by funext c b s x y f; exact gtr_eq c b s f x y)
  (by funext c b s x y f; exact geq_eq c b s f x y)
  (by funext c b s x y f; exact qAdd_eq c b s f x y)
  (by funext c b s x y f; exact qSub_eq c b s f x y)
  (by funext c b s x f; exact qNot_eq c b s f x)
  (by funext c b s x f; exact qNil_eq c b s f x)
  (by funext c b s x f; exact qLenS_eq c b s f x)
  (by funext c b s x f; exact qLenL_eq c b s f x)
  (by funext c b s x y f; exact qIdx_eq c b s f x y)
  (by funext c b s x y z f; exact qPick_eq c b s f x y z)
  (by funext d c b s x f; exact qFad_eq c b s f d x)
  (by funext d c b s x y f; exact qIad_eq c b s f d x y)
  (by funext g d c b s x f; exact qLdSt_eq c b s f g d x)
  (by funext g d c b s x f; exact qLdRo_eq c b s f g d x)
  (by funext i g d c b s x f; exact qLdLc_eq c b s f i g d x)
  (by funext d c b s x f; exact qExt_eq c b s f d x)
  (by funext c b s x y z f; exact qSlS_eq c b s f x y z)
  (by funext a f; exact rfl)
  (by funext i c xs b s f; exact qCall_eq c b s f i xs)
  (by funext d e c b s x y f; exact qApp_eq c b s f d e x y)
  (by funext d c b s f; exact qAlloc_eq c b s f d)
  (by funext i d c b s x y f; exact qStLc_eq c b s f i d x y)
  (by funext d c b s x y f; exact qStSt_eq c b s f d x y)
  (by funext c b s x f; exact rfl)
  (by funext k c xs b s f; exact gen_eq k c b s f xs)
  (by funext k c xs b s f; exact gen2_eq k c b s f xs)
  (by funext k c xs b s f; exact gen3_eq k c b s f xs)
  (by funext q w op f; exact qG_eq q w op f)
  (by funext q w s op f; exact qG2_eq q w s op f)
  (by funext x k; exact qSb_eq x k)
  (by funext x k; exact qSv_eq x k)
  (by funext x k; exact qWk_eq x k)
/-! a region by them -/
def stepF (call : CallT) (o : AOper) (σ : Sig) (k : Sig → O) : O :=
  match o.guard with
  | none => goK call o σ k
  | some (x, want) => match o.kind.setSt || o.kind.alters || anySteals o.args with
    | false => gF (x.read σ) want (fun f => obind (p1 (sem o.kind call (o.args.map (·.read σ)) (goK.boxOf' o.box σ) σ.st)) f) fun r => k (o.dst.put r σ)
    | true => match o.kind.alters || anySteals o.args with
      | false => gF2 (x.read σ) want σ.st (fun f => obind (p2 (sem o.kind call (o.args.map (·.read σ)) (goK.boxOf' o.box σ) σ.st)) f) fun r => k (o.dst.put r.1 { σ with st := r.2 })
      | true => stepK call o σ k
def runF (call : CallT) : List AOper → Sig → (Sig → O) → O
  | [], σ, k => k σ
  | o :: os, σ, k => stepF call o σ fun σ => runF call os σ k
def regF (call : CallT) (kill : List Nat) (ops : List AOper) (c : Opd) (fr : List AV) (st : St) : O :=
  runF call ops ⟨killAll kill fr, fun _ => .undef, st⟩ fun σ => some (c.read σ, σ.fr, σ.st)

theorem stepF_eq (call : CallT) (o : AOper) (σ : Sig) (k : Sig → O) : stepF call o σ k = stepK call o σ k := by
  unfold stepF
  cases hg : o.guard with
  | none => simp only [stepK, hg]
  | some xw =>
    obtain ⟨x, want⟩ := xw
    simp only
    split
    · rename_i hp
      simp only [stepK, hg, hp]
      rw [gv_bind]
      unfold gF
      rfl
    · rename_i hp
      split
      · rename_i hq
        simp only [stepK, hg, hp, hq]
        rw [gv2_bind]
        unfold gF2
        rfl
      · rfl
theorem runF_eq (call : CallT) (k : Sig → O) : ∀ (ops : List AOper) (σ : Sig), runF call ops σ k = runK call ops σ k
  | [], σ => rfl
  | o :: os, σ => by
    simp only [runF, runK, stepF_eq]
    congr 1
    funext σ
    exact runF_eq call k os σ
theorem regF_eq (call : CallT) (kill : List Nat) (ops : List AOper) (c : Opd) (fr : List AV) (st : St) :
    regF call kill ops c fr st = match runOps call ops ⟨killAll kill fr, fun _ => .undef, st⟩ with | some σ => some (c.read σ, σ.fr, σ.st) | none => none := by
  unfold regF
  rw [runF_eq, runK_eq]
  cases runOps call ops ⟨killAll kill fr, fun _ => .undef, st⟩ <;> rfl

/-! code -/
abbrev R := List AV → St → Option Out
abbrev Zr := List AV → St → O
/-- what it comes to, the code comes to as well -/
def Ref (call : CallT) (n : Nat) (z : R) (code : ACode) : Prop := ∀ fr st r, z fr st = some r → exec call n code fr st = some r
def RefR (call : CallT) (kill : List Nat) (ops : List AOper) (c : Opd) (z : Zr) : Prop := ∀ fr st r, z fr st = some r → regF call kill ops c fr st = some r
noncomputable def onO (x : O) (k : AV → List AV → St → Option Out) : Option Out := Option.rec (motive := fun _ => Option Out) none (fun p => Prod.rec (motive := fun _ => Option Out) (fun v q => Prod.rec (motive := fun _ => Option Out) (fun fr st => k v fr st) q) p) x
noncomputable def onOut (x : Option Out) (k : Ex → List AV → St → Option Out) : Option Out := Option.rec (motive := fun _ => Option Out) none (fun p => Prod.rec (motive := fun _ => Option Out) (fun v q => Prod.rec (motive := fun _ => Option Out) (fun fr st => k v fr st) q) p) x
theorem onO_eq (x : O) (k : AV → List AV → St → Option Out) : onO x k = match x with | some (v, fr, st) => k v fr st | none => none := by cases x <;> rfl
theorem onOut_eq (x : Option Out) (k : Ex → List AV → St → Option Out) : onOut x k = match x with | some (v, fr, st) => k v fr st | none => none := by cases x <;> rfl
noncomputable def onEx (e : Ex) (a : Option Out) (b : Nat → Option Out) (c : Option Out) : Option Out := Ex.rec (motive := fun _ => Option Out) a b c e
noncomputable def cBO (b : Bool) (x y : Option Out) : Option Out := Bool.rec (motive := fun _ => Option Out) y x b
theorem cBO_eq (b : Bool) (x y : Option Out) : cBO b x y = if b = true then x else y := by cases b <;> rfl
noncomputable def qBr (v : AV) (x y : Option Out) : Option Out := AV.rec (motive_1 := fun _ => Option Out) (motive_2 := fun _ => Unit) (motive_3 := fun _ => Unit)  (none) (fun b => cBO b x y) (fun t n => none) (fun s => none) (fun o xs _ => none) (fun o f => none) (none) (fun cs _ => none) (fun i f => none) (fun cs _ => none) (fun o => none) (none) (fun f a c _ _ => none) (none) (fun cs _ => none) (fun vs _ => none) (fun t v _ => none) (none) (fun o f n s => none) (fun xs _ => none) () (fun _ _ _ _ => ()) () (fun _ _ _ _ => ()) v
theorem qBr_eq (v : AV) (x y : Option Out) : qBr v x y = match v with | .bool true => x | .bool false => y | _ => none := by
  cases v <;> try rfl
  rename_i b; cases b <;> rfl
noncomputable def qReg (z : Zr) : R := fun fr st => onO (z fr st) fun _ fr st => some (.normal, fr, st)
noncomputable def qTest (z : Zr) (A B : R) : R := fun fr st => onO (z fr st) fun c fr st => qBr c (A fr st) (B fr st)
noncomputable def qSeq (A B : R) : R := fun fr st => onOut (A fr st) fun e fr st => onEx e (B fr st) (fun i => some (.exit i, fr, st)) (some (.ret, fr, st))
noncomputable def qBlk (id : Nat) (A : R) : R := fun fr st => onOut (A fr st) fun e fr st => onEx e (some (.normal, fr, st)) (fun i => cBO (Nat.beq i id) (some (.normal, fr, st)) (some (.exit i, fr, st))) (some (.ret, fr, st))
noncomputable def qLoop (n : Nat) (A : R) : R := Nat.rec (motive := fun _ => R) (fun _ _ => none) (fun _ ih fr st => onOut (A fr st) fun e fr st => onEx e (ih fr st) (fun i => some (.exit i, fr, st)) (some (.ret, fr, st))) n
theorem Ref.reg {call : CallT} {n : Nat} {kill : List Nat} {ops : List AOper} {c : Opd} {z : Zr} (h : RefR call kill ops c z) : Ref call n (qReg z) (.reg kill ops) := fun fr st r hs => by
  unfold qReg at hs
  rw [onO_eq] at hs
  cases hz : z fr st with
  | none => simp [hz] at hs
  | some p =>
    obtain ⟨v, fr', st'⟩ := p
    simp only [hz] at hs
    have := h _ _ _ hz
    rw [regF_eq] at this
    simp only [exec, fL_eq]
    cases hr : runOps call ops ⟨killAll kill fr, fun _ => .undef, st⟩ with
    | none => simp [hr] at this
    | some σ =>
      simp only [hr, Option.some.injEq, Prod.mk.injEq] at this
      obtain ⟨_, h2, h3⟩ := this
      simp only [h2, h3]
      exact hs
theorem Ref.reg0 {call : CallT} {n : Nat} {kill : List Nat} {ops : List AOper} {z : Zr} (h : RefR call kill ops (.c .undef) z) : Ref call n (qReg z) (.reg kill ops) := Ref.reg h
theorem Ref.test {call : CallT} {n : Nat} {kill : List Nat} {ops : List AOper} {c : Opd} {z : Zr} {A B : R} {a b : ACode} (h : RefR call kill ops c z) (hA : Ref call n A a) (hB : Ref call n B b) : Ref call n (qTest z A B) (.test kill ops c a b) := fun fr st r hs => by
  unfold qTest at hs
  rw [onO_eq] at hs
  cases hz : z fr st with
  | none => simp [hz] at hs
  | some p =>
    obtain ⟨v, fr', st'⟩ := p
    simp only [hz, qBr_eq] at hs
    have := h _ _ _ hz
    rw [regF_eq] at this
    simp only [exec, fL_eq]
    cases hr : runOps call ops ⟨killAll kill fr, fun _ => .undef, st⟩ with
    | none => simp [hr] at this
    | some σ =>
      simp only [hr, Option.some.injEq, Prod.mk.injEq] at this
      obtain ⟨h1, h2, h3⟩ := this
      simp only [h1, h2, h3]
      cases v <;> try (cases hs; done)
      rename_i v
      cases v
      · exact hB _ _ _ hs
      · exact hA _ _ _ hs
theorem Ref.seq {call : CallT} {n : Nat} {A B : R} {a b : ACode} (hA : Ref call n A a) (hB : Ref call n B b) : Ref call n (qSeq A B) (.seq a b) := fun fr st r hs => by
  unfold qSeq at hs
  rw [onOut_eq] at hs
  cases hz : A fr st with
  | none => simp [hz] at hs
  | some p =>
    obtain ⟨e, fr', st'⟩ := p
    simp only [hz] at hs
    simp only [exec, hA _ _ _ hz]
    cases e
    · exact hB _ _ _ hs
    · exact hs
    · exact hs
theorem Ref.blk {call : CallT} {n : Nat} {id : Nat} {A : R} {a : ACode} (hA : Ref call n A a) : Ref call n (qBlk id A) (.blk id a) := fun fr st r hs => by
  unfold qBlk at hs
  rw [onOut_eq] at hs
  cases hz : A fr st with
  | none => simp [hz] at hs
  | some p =>
    obtain ⟨e, fr', st'⟩ := p
    simp only [hz] at hs
    simp only [exec, hA _ _ _ hz]
    cases e
    · exact hs
    · rename_i i
      simp only [onEx, cBO_eq] at hs
      by_cases h : i = id
      · subst h
        simpa using hs
      · have e : Nat.beq i id = false := Bool.eq_false_iff.mpr (fun q => h (Nat.eq_of_beq_eq_true q))
        simpa [e, h] using hs
    · exact hs
theorem loop_r {call : CallT} {n : Nat} {A : R} {a : ACode} (hA : Ref call n A a) : ∀ (m : Nat) (fr : List AV) (st : St) (r : Out), qLoop m A fr st = some r → iter (exec call n a) m fr st = some r
  | 0, _, _, _, hs => by cases hs
  | m + 1, fr, st, r, hs => by
    change onOut (A fr st) (fun e fr st => onEx e (qLoop m A fr st) (fun i => some (.exit i, fr, st)) (some (.ret, fr, st))) = some r at hs
    rw [onOut_eq] at hs
    cases hz : A fr st with
    | none => simp [hz] at hs
    | some p =>
      obtain ⟨e, fr', st'⟩ := p
      simp only [hz] at hs
      simp only [iter, hA _ _ _ hz]
      cases e
      · exact loop_r hA m _ _ _ hs
      · exact hs
      · exact hs
theorem Ref.loop {call : CallT} {n : Nat} {A : R} {a : ACode} (hA : Ref call n A a) : Ref call n (qLoop n A) (.loop a) := fun fr st r hs => by
  simp only [exec]
  exact loop_r hA n fr st r hs
theorem Ref.exit {call : CallT} {n : Nat} {id : Nat} : Ref call n (fun fr st => some (.exit id, fr, st)) (.exit id) := fun _ _ _ hs => hs
theorem Ref.ret {call : CallT} {n : Nat} : Ref call n (fun fr st => some (.ret, fr, st)) .ret := fun _ _ _ hs => hs
theorem Ref.skip {call : CallT} {n : Nat} : Ref call n (fun fr st => some (.normal, fr, st)) .skip := fun _ _ _ hs => hs
/-! functions -/
/-- a function that is told once more -/
structure ZF where
  no : Nat
  np : Nat
  pad : List AV
  results : List ResK
  body : CallT → Nat → R
abbrev C2 := Option (AV × St)
noncomputable def appF (a b : List AV) : List AV := List.rec (motive := fun _ => List AV) b (fun x _ r => x :: r) a
theorem appF_eq : ∀ a b : List AV, appF a b = a ++ b
  | [], b => rfl
  | x :: a, b => by show x :: appF a b = _; rw [appF_eq a b]; rfl
noncomputable def onOutC (x : Option Out) (k : Ex → List AV → St → C2) : C2 := Option.rec (motive := fun _ => C2) none (fun p => Prod.rec (motive := fun _ => C2) (fun v q => Prod.rec (motive := fun _ => C2) (fun fr st => k v fr st) q) p) x
theorem onOutC_eq (x : Option Out) (k : Ex → List AV → St → C2) : onOutC x k = match x with | some (v, fr, st) => k v fr st | none => none := by cases x <;> rfl
noncomputable def resF (rs : List ResK) (fr : List AV) (st : St) : C2 := match getAll rs fr with
  | some [v] => fNew v fun v => some (v, st)
  | some vs => fL vs fun vs => some (.tuple vs, st)
  | none => none
noncomputable def ZF.run (z : ZF) (call : CallT) (n : Nat) (args : List AV) (st : St) : C2 :=
  Bool.rec (motive := fun _ => C2) none (onOutC (z.body call n (appF args z.pad) st) fun e fr st => Ex.rec (motive := fun _ => C2) (resF z.results fr st) (fun _ => none) (resF z.results fr st) e) (Nat.beq (lenF args) z.np)
/-- it tells the function of the table -/
def ZF.OK (tbl : Nat → Option AFn) (z : ZF) : Prop := ∃ fn : AFn, tbl z.no = some fn ∧ fn.ext = none ∧ fn.np = z.np ∧ fn.results = z.results ∧ z.pad = List.replicate (fn.nv - fn.np) .undef ∧ ∀ call n, Ref call n (z.body call n) fn.code
theorem ZF.run_ok {tbl : Nat → Option AFn} {z : ZF} (h : z.OK tbl) (call : CallT) (n : Nat) (args : List AV) (st : St) (r : AV × St) (hs : z.run call n args st = some r) :
    ∃ fn, tbl z.no = some fn ∧ fn.ext = none ∧ fn.run call n args st = some r := by
  obtain ⟨fn, h1, h2, h3, h4, h5, h6⟩ := h
  refine ⟨fn, h1, h2, ?_⟩
  unfold ZF.run at hs
  rw [lenF_eq] at hs
  cases hb : Nat.beq args.length z.np with
  | false => rw [hb] at hs; cases hs
  | true =>
    rw [hb] at hs
    have hl := Nat.eq_of_beq_eq_true hb
    change onOutC (z.body call n (appF args z.pad) st) _ = some r at hs
    rw [onOutC_eq, appF_eq, h5] at hs
    unfold AFn.run
    rw [if_pos (by rw [h3]; exact hl)]
    cases hz : z.body call n (args ++ List.replicate (fn.nv - fn.np) .undef) st with
    | none => simp [hz] at hs
    | some p =>
      obtain ⟨e, fr', st'⟩ := p
      rw [h6 call n _ _ _ hz]
      simp only [hz] at hs
      have hres : resF z.results fr' st' = (match getAll fn.results fr' with | some [v] => some (v, st') | some vs => some (.tuple vs, st') | none => none) := by
        unfold resF
        rw [h4]
        simp only [fNew_eq, fL_eq]
      cases e
      · change resF z.results fr' st' = some r at hs
        rw [hres] at hs
        exact hs
      · cases hs
      · change resF z.results fr' st' = some r at hs
        rw [hres] at hs
        exact hs

noncomputable def findZ (l : List ZF) (f : Nat) (k : ZF → C2) (e : C2) : C2 := List.rec (motive := fun _ => C2) e (fun z _ ih => Bool.rec (motive := fun _ => C2) ih (k z) (Nat.beq z.no f)) l
noncomputable def findR (l : List (List ZF)) (i : Nat) (k : List ZF → C2) (e : C2) : C2 := List.rec (motive := fun _ => Nat → C2) (fun _ => e) (fun z _ ih i => Nat.rec (motive := fun _ => C2) (k z) (fun j _ => ih j) i) l i
/-- a call, by the functions that are told once more where there are such -/
noncomputable def callQ (tbl : Nat → Option AFn) (zs : List (List ZF)) (n : Nat) : CallT := Nat.rec (motive := fun _ => CallT) (fun _ _ _ => none)
  (fun n ih f args st => findR zs (Nat.div f 10) (fun l => findZ l f (fun z => z.run ih n args st) (match tbl f with | some fn => (match fn.ext with | some e => e args st | none => fn.run ih n args st) | none => none))
    (match tbl f with | some fn => (match fn.ext with | some e => e args st | none => fn.run ih n args st) | none => none)) n
theorem findZ_ok {l : List ZF} {f : Nat} {k : ZF → C2} {e : C2} {r : AV × St} (h : findZ l f k e = some r) : e = some r ∨ ∃ z, z ∈ l ∧ z.no = f ∧ k z = some r := by
  induction l with
  | nil => exact .inl h
  | cons z l ih =>
    change Bool.rec (motive := fun _ => C2) (findZ l f k e) (k z) (Nat.beq z.no f) = some r at h
    cases hb : Nat.beq z.no f with
    | true =>
      rw [hb] at h
      exact .inr ⟨z, List.mem_cons_self, Nat.eq_of_beq_eq_true hb, h⟩
    | false =>
      rw [hb] at h
      rcases ih h with h | ⟨z', h1, h2, h3⟩
      · exact .inl h
      · exact .inr ⟨z', List.mem_cons_of_mem _ h1, h2, h3⟩
theorem findR_ok {l : List (List ZF)} {i : Nat} {k : List ZF → C2} {e : C2} {r : AV × St} (h : findR l i k e = some r) : e = some r ∨ ∃ z, z ∈ l ∧ k z = some r := by
  induction l generalizing i with
  | nil => exact .inl h
  | cons z l ih =>
    cases i with
    | zero => exact .inr ⟨z, List.mem_cons_self, h⟩
    | succ j =>
      change findR l j k e = some r at h
      rcases ih h with h | ⟨z', h1, h2⟩
      · exact .inl h
      · exact .inr ⟨z', List.mem_cons_of_mem _ h1, h2⟩
theorem callQ_le {tbl : Nat → Option AFn} {zs : List (List ZF)} (h : ∀ l ∈ zs, ∀ z ∈ l, z.OK tbl) : ∀ n, CallLe (callQ tbl zs n) (callF tbl n)
  | 0, _, _, _, _, hs => by cases hs
  | n + 1, f, as, st, r, hs => by
    have hc := callQ_le h n
    have slow : (match tbl f with | some fn => (match fn.ext with | some e => e as st | none => fn.run (callQ tbl zs n) n as st) | none => none) = some r → callF tbl (n + 1) f as st = some r := fun hs => by
      simp only [callF]
      cases htb : tbl f with
      | none => simp [htb] at hs
      | some fn =>
        simp only [htb] at hs ⊢
        cases he : fn.ext with
        | some e => simp only [he] at hs ⊢; exact hs
        | none => simp only [he] at hs ⊢; exact run_le hc (Nat.le_refl _) hs
    change findR zs (Nat.div f 10) (fun l => findZ l f (fun z => z.run (callQ tbl zs n) n as st) _) _ = some r at hs
    rcases findR_ok hs with hs | ⟨l, hl, hs⟩
    · exact slow hs
    · rcases findZ_ok hs with hs | ⟨z, hz, hf, hs⟩
      · exact slow hs
      · obtain ⟨fn, h1, h2, h3⟩ := ZF.run_ok (h l hl z hz) _ _ _ _ _ hs
        rw [hf] at h1
        simp only [callF, h1, h2]
        exact run_le hc (Nat.le_refl _) h3

/-! a list of values, taken apart -/
abbrev T0 := St → O
abbrev T1 := AV → St → O
abbrev T2 := AV → AV → St → O
abbrev T3 := AV → AV → AV → St → O
abbrev T4 := AV → AV → AV → AV → St → O
abbrev T5 := AV → AV → AV → AV → AV → St → O
abbrev T6 := AV → AV → AV → AV → AV → AV → St → O
abbrev T7 := AV → AV → AV → AV → AV → AV → AV → St → O
abbrev T8 := AV → AV → AV → AV → AV → AV → AV → AV → St → O
abbrev T10 := AV → AV → AV → AV → AV → AV → AV → AV → AV → AV → St → O
abbrev T11 := AV → AV → AV → AV → AV → AV → AV → AV → AV → AV → AV → St → O
abbrev T12 := AV → AV → AV → AV → AV → AV → AV → AV → AV → AV → AV → AV → St → O
abbrev T13 := AV → AV → AV → AV → AV → AV → AV → AV → AV → AV → AV → AV → AV → St → O
abbrev T16 := AV → AV → AV → AV → AV → AV → AV → AV → AV → AV → AV → AV → AV → AV → AV → AV → St → O
abbrev T18 := AV → AV → AV → AV → AV → AV → AV → AV → AV → AV → AV → AV → AV → AV → AV → AV → AV → AV → St → O
abbrev T19 := AV → AV → AV → AV → AV → AV → AV → AV → AV → AV → AV → AV → AV → AV → AV → AV → AV → AV → AV → St → O
noncomputable def u0 (f : St → O) : Zr := fun fr st => List.rec (motive := fun _ => O) (f st) (fun _ _ _ => none) fr
theorem u0_le {f : St → O} {g : Zr} (h : ∀ st, f st = g [] st) : ∀ fr st r, u0 f fr st = some r → g fr st = some r := fun fr st r hs => match fr, hs with
  | [], hs => (h st).symm.trans hs
  | _ :: _, hs => nomatch hs
noncomputable def u1 (f : AV → St → O) : Zr := fun fr st => List.rec (motive := fun _ => O) none (fun a t _ => u0 (f a) t st) fr
theorem u1_le {f : AV → St → O} {g : Zr} (h : ∀ a0 st, f a0 st = g [a0] st) : ∀ fr st r, u1 f fr st = some r → g fr st = some r := fun fr st r hs => match fr, hs with
  | [], hs => nomatch hs
  | a :: t, hs => u0_le (g := fun l => g (a :: l)) (fun st => h a st) t st r hs
noncomputable def u2 (f : AV → AV → St → O) : Zr := fun fr st => List.rec (motive := fun _ => O) none (fun a t _ => u1 (f a) t st) fr
theorem u2_le {f : AV → AV → St → O} {g : Zr} (h : ∀ a0 a1 st, f a0 a1 st = g [a0, a1] st) : ∀ fr st r, u2 f fr st = some r → g fr st = some r := fun fr st r hs => match fr, hs with
  | [], hs => nomatch hs
  | a :: t, hs => u1_le (g := fun l => g (a :: l)) (fun a1 st => h a a1 st) t st r hs
noncomputable def u3 (f : AV → AV → AV → St → O) : Zr := fun fr st => List.rec (motive := fun _ => O) none (fun a t _ => u2 (f a) t st) fr
theorem u3_le {f : AV → AV → AV → St → O} {g : Zr} (h : ∀ a0 a1 a2 st, f a0 a1 a2 st = g [a0, a1, a2] st) : ∀ fr st r, u3 f fr st = some r → g fr st = some r := fun fr st r hs => match fr, hs with
  | [], hs => nomatch hs
  | a :: t, hs => u2_le (g := fun l => g (a :: l)) (fun a1 a2 st => h a a1 a2 st) t st r hs
noncomputable def u4 (f : AV → AV → AV → AV → St → O) : Zr := fun fr st => List.rec (motive := fun _ => O) none (fun a t _ => u3 (f a) t st) fr
theorem u4_le {f : AV → AV → AV → AV → St → O} {g : Zr} (h : ∀ a0 a1 a2 a3 st, f a0 a1 a2 a3 st = g [a0, a1, a2, a3] st) : ∀ fr st r, u4 f fr st = some r → g fr st = some r := fun fr st r hs => match fr, hs with
  | [], hs => nomatch hs
  | a :: t, hs => u3_le (g := fun l => g (a :: l)) (fun a1 a2 a3 st => h a a1 a2 a3 st) t st r hs
noncomputable def u5 (f : AV → AV → AV → AV → AV → St → O) : Zr := fun fr st => List.rec (motive := fun _ => O) none (fun a t _ => u4 (f a) t st) fr
theorem u5_le {f : AV → AV → AV → AV → AV → St → O} {g : Zr} (h : ∀ a0 a1 a2 a3 a4 st, f a0 a1 a2 a3 a4 st = g [a0, a1, a2, a3, a4] st) : ∀ fr st r, u5 f fr st = some r → g fr st = some r := fun fr st r hs => match fr, hs with
  | [], hs => nomatch hs
  | a :: t, hs => u4_le (g := fun l => g (a :: l)) (fun a1 a2 a3 a4 st => h a a1 a2 a3 a4 st) t st r hs
noncomputable def u6 (f : AV → AV → AV → AV → AV → AV → St → O) : Zr := fun fr st => List.rec (motive := fun _ => O) none (fun a t _ => u5 (f a) t st) fr
theorem u6_le {f : AV → AV → AV → AV → AV → AV → St → O} {g : Zr} (h : ∀ a0 a1 a2 a3 a4 a5 st, f a0 a1 a2 a3 a4 a5 st = g [a0, a1, a2, a3, a4, a5] st) : ∀ fr st r, u6 f fr st = some r → g fr st = some r := fun fr st r hs => match fr, hs with
  | [], hs => nomatch hs
  | a :: t, hs => u5_le (g := fun l => g (a :: l)) (fun a1 a2 a3 a4 a5 st => h a a1 a2 a3 a4 a5 st) t st r hs
noncomputable def u7 (f : AV → AV → AV → AV → AV → AV → AV → St → O) : Zr := fun fr st => List.rec (motive := fun _ => O) none (fun a t _ => u6 (f a) t st) fr
theorem u7_le {f : AV → AV → AV → AV → AV → AV → AV → St → O} {g : Zr} (h : ∀ a0 a1 a2 a3 a4 a5 a6 st, f a0 a1 a2 a3 a4 a5 a6 st = g [a0, a1, a2, a3, a4, a5, a6] st) : ∀ fr st r, u7 f fr st = some r → g fr st = some r := fun fr st r hs => match fr, hs with
  | [], hs => nomatch hs
  | a :: t, hs => u6_le (g := fun l => g (a :: l)) (fun a1 a2 a3 a4 a5 a6 st => h a a1 a2 a3 a4 a5 a6 st) t st r hs
noncomputable def u8 (f : AV → AV → AV → AV → AV → AV → AV → AV → St → O) : Zr := fun fr st => List.rec (motive := fun _ => O) none (fun a t _ => u7 (f a) t st) fr
theorem u8_le {f : AV → AV → AV → AV → AV → AV → AV → AV → St → O} {g : Zr} (h : ∀ a0 a1 a2 a3 a4 a5 a6 a7 st, f a0 a1 a2 a3 a4 a5 a6 a7 st = g [a0, a1, a2, a3, a4, a5, a6, a7] st) : ∀ fr st r, u8 f fr st = some r → g fr st = some r := fun fr st r hs => match fr, hs with
  | [], hs => nomatch hs
  | a :: t, hs => u7_le (g := fun l => g (a :: l)) (fun a1 a2 a3 a4 a5 a6 a7 st => h a a1 a2 a3 a4 a5 a6 a7 st) t st r hs
noncomputable def u9 (f : AV → AV → AV → AV → AV → AV → AV → AV → AV → St → O) : Zr := fun fr st => List.rec (motive := fun _ => O) none (fun a t _ => u8 (f a) t st) fr
theorem u9_le {f : AV → AV → AV → AV → AV → AV → AV → AV → AV → St → O} {g : Zr} (h : ∀ a0 a1 a2 a3 a4 a5 a6 a7 a8 st, f a0 a1 a2 a3 a4 a5 a6 a7 a8 st = g [a0, a1, a2, a3, a4, a5, a6, a7, a8] st) : ∀ fr st r, u9 f fr st = some r → g fr st = some r := fun fr st r hs => match fr, hs with
  | [], hs => nomatch hs
  | a :: t, hs => u8_le (g := fun l => g (a :: l)) (fun a1 a2 a3 a4 a5 a6 a7 a8 st => h a a1 a2 a3 a4 a5 a6 a7 a8 st) t st r hs
noncomputable def u10 (f : AV → AV → AV → AV → AV → AV → AV → AV → AV → AV → St → O) : Zr := fun fr st => List.rec (motive := fun _ => O) none (fun a t _ => u9 (f a) t st) fr
theorem u10_le {f : AV → AV → AV → AV → AV → AV → AV → AV → AV → AV → St → O} {g : Zr} (h : ∀ a0 a1 a2 a3 a4 a5 a6 a7 a8 a9 st, f a0 a1 a2 a3 a4 a5 a6 a7 a8 a9 st = g [a0, a1, a2, a3, a4, a5, a6, a7, a8, a9] st) : ∀ fr st r, u10 f fr st = some r → g fr st = some r := fun fr st r hs => match fr, hs with
  | [], hs => nomatch hs
  | a :: t, hs => u9_le (g := fun l => g (a :: l)) (fun a1 a2 a3 a4 a5 a6 a7 a8 a9 st => h a a1 a2 a3 a4 a5 a6 a7 a8 a9 st) t st r hs
noncomputable def u11 (f : AV → AV → AV → AV → AV → AV → AV → AV → AV → AV → AV → St → O) : Zr := fun fr st => List.rec (motive := fun _ => O) none (fun a t _ => u10 (f a) t st) fr
theorem u11_le {f : AV → AV → AV → AV → AV → AV → AV → AV → AV → AV → AV → St → O} {g : Zr} (h : ∀ a0 a1 a2 a3 a4 a5 a6 a7 a8 a9 a10 st, f a0 a1 a2 a3 a4 a5 a6 a7 a8 a9 a10 st = g [a0, a1, a2, a3, a4, a5, a6, a7, a8, a9, a10] st) : ∀ fr st r, u11 f fr st = some r → g fr st = some r := fun fr st r hs => match fr, hs with
  | [], hs => nomatch hs
  | a :: t, hs => u10_le (g := fun l => g (a :: l)) (fun a1 a2 a3 a4 a5 a6 a7 a8 a9 a10 st => h a a1 a2 a3 a4 a5 a6 a7 a8 a9 a10 st) t st r hs
noncomputable def u12 (f : AV → AV → AV → AV → AV → AV → AV → AV → AV → AV → AV → AV → St → O) : Zr := fun fr st => List.rec (motive := fun _ => O) none (fun a t _ => u11 (f a) t st) fr
theorem u12_le {f : AV → AV → AV → AV → AV → AV → AV → AV → AV → AV → AV → AV → St → O} {g : Zr} (h : ∀ a0 a1 a2 a3 a4 a5 a6 a7 a8 a9 a10 a11 st, f a0 a1 a2 a3 a4 a5 a6 a7 a8 a9 a10 a11 st = g [a0, a1, a2, a3, a4, a5, a6, a7, a8, a9, a10, a11] st) : ∀ fr st r, u12 f fr st = some r → g fr st = some r := fun fr st r hs => match fr, hs with
  | [], hs => nomatch hs
  | a :: t, hs => u11_le (g := fun l => g (a :: l)) (fun a1 a2 a3 a4 a5 a6 a7 a8 a9 a10 a11 st => h a a1 a2 a3 a4 a5 a6 a7 a8 a9 a10 a11 st) t st r hs
noncomputable def u13 (f : AV → AV → AV → AV → AV → AV → AV → AV → AV → AV → AV → AV → AV → St → O) : Zr := fun fr st => List.rec (motive := fun _ => O) none (fun a t _ => u12 (f a) t st) fr
theorem u13_le {f : AV → AV → AV → AV → AV → AV → AV → AV → AV → AV → AV → AV → AV → St → O} {g : Zr} (h : ∀ a0 a1 a2 a3 a4 a5 a6 a7 a8 a9 a10 a11 a12 st, f a0 a1 a2 a3 a4 a5 a6 a7 a8 a9 a10 a11 a12 st = g [a0, a1, a2, a3, a4, a5, a6, a7, a8, a9, a10, a11, a12] st) : ∀ fr st r, u13 f fr st = some r → g fr st = some r := fun fr st r hs => match fr, hs with
  | [], hs => nomatch hs
  | a :: t, hs => u12_le (g := fun l => g (a :: l)) (fun a1 a2 a3 a4 a5 a6 a7 a8 a9 a10 a11 a12 st => h a a1 a2 a3 a4 a5 a6 a7 a8 a9 a10 a11 a12 st) t st r hs
noncomputable def u14 (f : AV → AV → AV → AV → AV → AV → AV → AV → AV → AV → AV → AV → AV → AV → St → O) : Zr := fun fr st => List.rec (motive := fun _ => O) none (fun a t _ => u13 (f a) t st) fr
theorem u14_le {f : AV → AV → AV → AV → AV → AV → AV → AV → AV → AV → AV → AV → AV → AV → St → O} {g : Zr} (h : ∀ a0 a1 a2 a3 a4 a5 a6 a7 a8 a9 a10 a11 a12 a13 st, f a0 a1 a2 a3 a4 a5 a6 a7 a8 a9 a10 a11 a12 a13 st = g [a0, a1, a2, a3, a4, a5, a6, a7, a8, a9, a10, a11, a12, a13] st) : ∀ fr st r, u14 f fr st = some r → g fr st = some r := fun fr st r hs => match fr, hs with
  | [], hs => nomatch hs
  | a :: t, hs => u13_le (g := fun l => g (a :: l)) (fun a1 a2 a3 a4 a5 a6 a7 a8 a9 a10 a11 a12 a13 st => h a a1 a2 a3 a4 a5 a6 a7 a8 a9 a10 a11 a12 a13 st) t st r hs
noncomputable def u15 (f : AV → AV → AV → AV → AV → AV → AV → AV → AV → AV → AV → AV → AV → AV → AV → St → O) : Zr := fun fr st => List.rec (motive := fun _ => O) none (fun a t _ => u14 (f a) t st) fr
theorem u15_le {f : AV → AV → AV → AV → AV → AV → AV → AV → AV → AV → AV → AV → AV → AV → AV → St → O} {g : Zr} (h : ∀ a0 a1 a2 a3 a4 a5 a6 a7 a8 a9 a10 a11 a12 a13 a14 st, f a0 a1 a2 a3 a4 a5 a6 a7 a8 a9 a10 a11 a12 a13 a14 st = g [a0, a1, a2, a3, a4, a5, a6, a7, a8, a9, a10, a11, a12, a13, a14] st) : ∀ fr st r, u15 f fr st = some r → g fr st = some r := fun fr st r hs => match fr, hs with
  | [], hs => nomatch hs
  | a :: t, hs => u14_le (g := fun l => g (a :: l)) (fun a1 a2 a3 a4 a5 a6 a7 a8 a9 a10 a11 a12 a13 a14 st => h a a1 a2 a3 a4 a5 a6 a7 a8 a9 a10 a11 a12 a13 a14 st) t st r hs
noncomputable def u16 (f : AV → AV → AV → AV → AV → AV → AV → AV → AV → AV → AV → AV → AV → AV → AV → AV → St → O) : Zr := fun fr st => List.rec (motive := fun _ => O) none (fun a t _ => u15 (f a) t st) fr
theorem u16_le {f : AV → AV → AV → AV → AV → AV → AV → AV → AV → AV → AV → AV → AV → AV → AV → AV → St → O} {g : Zr} (h : ∀ a0 a1 a2 a3 a4 a5 a6 a7 a8 a9 a10 a11 a12 a13 a14 a15 st, f a0 a1 a2 a3 a4 a5 a6 a7 a8 a9 a10 a11 a12 a13 a14 a15 st = g [a0, a1, a2, a3, a4, a5, a6, a7, a8, a9, a10, a11, a12, a13, a14, a15] st) : ∀ fr st r, u16 f fr st = some r → g fr st = some r := fun fr st r hs => match fr, hs with
  | [], hs => nomatch hs
  | a :: t, hs => u15_le (g := fun l => g (a :: l)) (fun a1 a2 a3 a4 a5 a6 a7 a8 a9 a10 a11 a12 a13 a14 a15 st => h a a1 a2 a3 a4 a5 a6 a7 a8 a9 a10 a11 a12 a13 a14 a15 st) t st r hs
noncomputable def u17 (f : AV → AV → AV → AV → AV → AV → AV → AV → AV → AV → AV → AV → AV → AV → AV → AV → AV → St → O) : Zr := fun fr st => List.rec (motive := fun _ => O) none (fun a t _ => u16 (f a) t st) fr
theorem u17_le {f : AV → AV → AV → AV → AV → AV → AV → AV → AV → AV → AV → AV → AV → AV → AV → AV → AV → St → O} {g : Zr} (h : ∀ a0 a1 a2 a3 a4 a5 a6 a7 a8 a9 a10 a11 a12 a13 a14 a15 a16 st, f a0 a1 a2 a3 a4 a5 a6 a7 a8 a9 a10 a11 a12 a13 a14 a15 a16 st = g [a0, a1, a2, a3, a4, a5, a6, a7, a8, a9, a10, a11, a12, a13, a14, a15, a16] st) : ∀ fr st r, u17 f fr st = some r → g fr st = some r := fun fr st r hs => match fr, hs with
  | [], hs => nomatch hs
  | a :: t, hs => u16_le (g := fun l => g (a :: l)) (fun a1 a2 a3 a4 a5 a6 a7 a8 a9 a10 a11 a12 a13 a14 a15 a16 st => h a a1 a2 a3 a4 a5 a6 a7 a8 a9 a10 a11 a12 a13 a14 a15 a16 st) t st r hs
noncomputable def u18 (f : AV → AV → AV → AV → AV → AV → AV → AV → AV → AV → AV → AV → AV → AV → AV → AV → AV → AV → St → O) : Zr := fun fr st => List.rec (motive := fun _ => O) none (fun a t _ => u17 (f a) t st) fr
theorem u18_le {f : AV → AV → AV → AV → AV → AV → AV → AV → AV → AV → AV → AV → AV → AV → AV → AV → AV → AV → St → O} {g : Zr} (h : ∀ a0 a1 a2 a3 a4 a5 a6 a7 a8 a9 a10 a11 a12 a13 a14 a15 a16 a17 st, f a0 a1 a2 a3 a4 a5 a6 a7 a8 a9 a10 a11 a12 a13 a14 a15 a16 a17 st = g [a0, a1, a2, a3, a4, a5, a6, a7, a8, a9, a10, a11, a12, a13, a14, a15, a16, a17] st) : ∀ fr st r, u18 f fr st = some r → g fr st = some r := fun fr st r hs => match fr, hs with
  | [], hs => nomatch hs
  | a :: t, hs => u17_le (g := fun l => g (a :: l)) (fun a1 a2 a3 a4 a5 a6 a7 a8 a9 a10 a11 a12 a13 a14 a15 a16 a17 st => h a a1 a2 a3 a4 a5 a6 a7 a8 a9 a10 a11 a12 a13 a14 a15 a16 a17 st) t st r hs
noncomputable def u19 (f : AV → AV → AV → AV → AV → AV → AV → AV → AV → AV → AV → AV → AV → AV → AV → AV → AV → AV → AV → St → O) : Zr := fun fr st => List.rec (motive := fun _ => O) none (fun a t _ => u18 (f a) t st) fr
theorem u19_le {f : AV → AV → AV → AV → AV → AV → AV → AV → AV → AV → AV → AV → AV → AV → AV → AV → AV → AV → AV → St → O} {g : Zr} (h : ∀ a0 a1 a2 a3 a4 a5 a6 a7 a8 a9 a10 a11 a12 a13 a14 a15 a16 a17 a18 st, f a0 a1 a2 a3 a4 a5 a6 a7 a8 a9 a10 a11 a12 a13 a14 a15 a16 a17 a18 st = g [a0, a1, a2, a3, a4, a5, a6, a7, a8, a9, a10, a11, a12, a13, a14, a15, a16, a17, a18] st) : ∀ fr st r, u19 f fr st = some r → g fr st = some r := fun fr st r hs => match fr, hs with
  | [], hs => nomatch hs
  | a :: t, hs => u18_le (g := fun l => g (a :: l)) (fun a1 a2 a3 a4 a5 a6 a7 a8 a9 a10 a11 a12 a13 a14 a15 a16 a17 a18 st => h a a1 a2 a3 a4 a5 a6 a7 a8 a9 a10 a11 a12 a13 a14 a15 a16 a17 a18 st) t st r hs
noncomputable def u20 (f : AV → AV → AV → AV → AV → AV → AV → AV → AV → AV → AV → AV → AV → AV → AV → AV → AV → AV → AV → AV → St → O) : Zr := fun fr st => List.rec (motive := fun _ => O) none (fun a t _ => u19 (f a) t st) fr
noncomputable def u21 (f : AV → AV → AV → AV → AV → AV → AV → AV → AV → AV → AV → AV → AV → AV → AV → AV → AV → AV → AV → AV → AV → St → O) : Zr := fun fr st => List.rec (motive := fun _ => O) none (fun a t _ => u20 (f a) t st) fr
noncomputable def u22 (f : AV → AV → AV → AV → AV → AV → AV → AV → AV → AV → AV → AV → AV → AV → AV → AV → AV → AV → AV → AV → AV → AV → St → O) : Zr := fun fr st => List.rec (motive := fun _ => O) none (fun a t _ => u21 (f a) t st) fr
noncomputable def u23 (f : AV → AV → AV → AV → AV → AV → AV → AV → AV → AV → AV → AV → AV → AV → AV → AV → AV → AV → AV → AV → AV → AV → AV → St → O) : Zr := fun fr st => List.rec (motive := fun _ => O) none (fun a t _ => u22 (f a) t st) fr
noncomputable def u24 (f : AV → AV → AV → AV → AV → AV → AV → AV → AV → AV → AV → AV → AV → AV → AV → AV → AV → AV → AV → AV → AV → AV → AV → AV → St → O) : Zr := fun fr st => List.rec (motive := fun _ => O) none (fun a t _ => u23 (f a) t st) fr
noncomputable def u25 (f : AV → AV → AV → AV → AV → AV → AV → AV → AV → AV → AV → AV → AV → AV → AV → AV → AV → AV → AV → AV → AV → AV → AV → AV → AV → St → O) : Zr := fun fr st => List.rec (motive := fun _ => O) none (fun a t _ => u24 (f a) t st) fr
noncomputable def u26 (f : AV → AV → AV → AV → AV → AV → AV → AV → AV → AV → AV → AV → AV → AV → AV → AV → AV → AV → AV → AV → AV → AV → AV → AV → AV → AV → St → O) : Zr := fun fr st => List.rec (motive := fun _ => O) none (fun a t _ => u25 (f a) t st) fr
noncomputable def u27 (f : AV → AV → AV → AV → AV → AV → AV → AV → AV → AV → AV → AV → AV → AV → AV → AV → AV → AV → AV → AV → AV → AV → AV → AV → AV → AV → AV → St → O) : Zr := fun fr st => List.rec (motive := fun _ => O) none (fun a t _ => u26 (f a) t st) fr
noncomputable def u28 (f : AV → AV → AV → AV → AV → AV → AV → AV → AV → AV → AV → AV → AV → AV → AV → AV → AV → AV → AV → AV → AV → AV → AV → AV → AV → AV → AV → AV → St → O) : Zr := fun fr st => List.rec (motive := fun _ => O) none (fun a t _ => u27 (f a) t st) fr
noncomputable def u29 (f : AV → AV → AV → AV → AV → AV → AV → AV → AV → AV → AV → AV → AV → AV → AV → AV → AV → AV → AV → AV → AV → AV → AV → AV → AV → AV → AV → AV → AV → St → O) : Zr := fun fr st => List.rec (motive := fun _ => O) none (fun a t _ => u28 (f a) t st) fr
noncomputable def u30 (f : AV → AV → AV → AV → AV → AV → AV → AV → AV → AV → AV → AV → AV → AV → AV → AV → AV → AV → AV → AV → AV → AV → AV → AV → AV → AV → AV → AV → AV → AV → St → O) : Zr := fun fr st => List.rec (motive := fun _ => O) none (fun a t _ => u29 (f a) t st) fr
noncomputable def u31 (f : AV → AV → AV → AV → AV → AV → AV → AV → AV → AV → AV → AV → AV → AV → AV → AV → AV → AV → AV → AV → AV → AV → AV → AV → AV → AV → AV → AV → AV → AV → AV → St → O) : Zr := fun fr st => List.rec (motive := fun _ => O) none (fun a t _ => u30 (f a) t st) fr
noncomputable def u32 (f : AV → AV → AV → AV → AV → AV → AV → AV → AV → AV → AV → AV → AV → AV → AV → AV → AV → AV → AV → AV → AV → AV → AV → AV → AV → AV → AV → AV → AV → AV → AV → AV → St → O) : Zr := fun fr st => List.rec (motive := fun _ => O) none (fun a t _ => u31 (f a) t st) fr
noncomputable def u33 (f : AV → AV → AV → AV → AV → AV → AV → AV → AV → AV → AV → AV → AV → AV → AV → AV → AV → AV → AV → AV → AV → AV → AV → AV → AV → AV → AV → AV → AV → AV → AV → AV → AV → St → O) : Zr := fun fr st => List.rec (motive := fun _ => O) none (fun a t _ => u32 (f a) t st) fr
noncomputable def u34 (f : AV → AV → AV → AV → AV → AV → AV → AV → AV → AV → AV → AV → AV → AV → AV → AV → AV → AV → AV → AV → AV → AV → AV → AV → AV → AV → AV → AV → AV → AV → AV → AV → AV → AV → St → O) : Zr := fun fr st => List.rec (motive := fun _ => O) none (fun a t _ => u33 (f a) t st) fr
noncomputable def u35 (f : AV → AV → AV → AV → AV → AV → AV → AV → AV → AV → AV → AV → AV → AV → AV → AV → AV → AV → AV → AV → AV → AV → AV → AV → AV → AV → AV → AV → AV → AV → AV → AV → AV → AV → AV → St → O) : Zr := fun fr st => List.rec (motive := fun _ => O) none (fun a t _ => u34 (f a) t st) fr
noncomputable def u36 (f : AV → AV → AV → AV → AV → AV → AV → AV → AV → AV → AV → AV → AV → AV → AV → AV → AV → AV → AV → AV → AV → AV → AV → AV → AV → AV → AV → AV → AV → AV → AV → AV → AV → AV → AV → AV → St → O) : Zr := fun fr st => List.rec (motive := fun _ => O) none (fun a t _ => u35 (f a) t st) fr
noncomputable def u37 (f : AV → AV → AV → AV → AV → AV → AV → AV → AV → AV → AV → AV → AV → AV → AV → AV → AV → AV → AV → AV → AV → AV → AV → AV → AV → AV → AV → AV → AV → AV → AV → AV → AV → AV → AV → AV → AV → St → O) : Zr := fun fr st => List.rec (motive := fun _ => O) none (fun a t _ => u36 (f a) t st) fr
noncomputable def u38 (f : AV → AV → AV → AV → AV → AV → AV → AV → AV → AV → AV → AV → AV → AV → AV → AV → AV → AV → AV → AV → AV → AV → AV → AV → AV → AV → AV → AV → AV → AV → AV → AV → AV → AV → AV → AV → AV → AV → St → O) : Zr := fun fr st => List.rec (motive := fun _ => O) none (fun a t _ => u37 (f a) t st) fr
noncomputable def u39 (f : AV → AV → AV → AV → AV → AV → AV → AV → AV → AV → AV → AV → AV → AV → AV → AV → AV → AV → AV → AV → AV → AV → AV → AV → AV → AV → AV → AV → AV → AV → AV → AV → AV → AV → AV → AV → AV → AV → AV → St → O) : Zr := fun fr st => List.rec (motive := fun _ => O) none (fun a t _ => u38 (f a) t st) fr
noncomputable def u40 (f : AV → AV → AV → AV → AV → AV → AV → AV → AV → AV → AV → AV → AV → AV → AV → AV → AV → AV → AV → AV → AV → AV → AV → AV → AV → AV → AV → AV → AV → AV → AV → AV → AV → AV → AV → AV → AV → AV → AV → AV → St → O) : Zr := fun fr st => List.rec (motive := fun _ => O) none (fun a t _ => u39 (f a) t st) fr
noncomputable def u41 (f : AV → AV → AV → AV → AV → AV → AV → AV → AV → AV → AV → AV → AV → AV → AV → AV → AV → AV → AV → AV → AV → AV → AV → AV → AV → AV → AV → AV → AV → AV → AV → AV → AV → AV → AV → AV → AV → AV → AV → AV → AV → St → O) : Zr := fun fr st => List.rec (motive := fun _ => O) none (fun a t _ => u40 (f a) t st) fr
noncomputable def u42 (f : AV → AV → AV → AV → AV → AV → AV → AV → AV → AV → AV → AV → AV → AV → AV → AV → AV → AV → AV → AV → AV → AV → AV → AV → AV → AV → AV → AV → AV → AV → AV → AV → AV → AV → AV → AV → AV → AV → AV → AV → AV → AV → St → O) : Zr := fun fr st => List.rec (motive := fun _ => O) none (fun a t _ => u41 (f a) t st) fr
noncomputable def u43 (f : AV → AV → AV → AV → AV → AV → AV → AV → AV → AV → AV → AV → AV → AV → AV → AV → AV → AV → AV → AV → AV → AV → AV → AV → AV → AV → AV → AV → AV → AV → AV → AV → AV → AV → AV → AV → AV → AV → AV → AV → AV → AV → AV → St → O) : Zr := fun fr st => List.rec (motive := fun _ => O) none (fun a t _ => u42 (f a) t st) fr
noncomputable def u44 (f : AV → AV → AV → AV → AV → AV → AV → AV → AV → AV → AV → AV → AV → AV → AV → AV → AV → AV → AV → AV → AV → AV → AV → AV → AV → AV → AV → AV → AV → AV → AV → AV → AV → AV → AV → AV → AV → AV → AV → AV → AV → AV → AV → AV → St → O) : Zr := fun fr st => List.rec (motive := fun _ => O) none (fun a t _ => u43 (f a) t st) fr
noncomputable def u45 (f : AV → AV → AV → AV → AV → AV → AV → AV → AV → AV → AV → AV → AV → AV → AV → AV → AV → AV → AV → AV → AV → AV → AV → AV → AV → AV → AV → AV → AV → AV → AV → AV → AV → AV → AV → AV → AV → AV → AV → AV → AV → AV → AV → AV → AV → St → O) : Zr := fun fr st => List.rec (motive := fun _ => O) none (fun a t _ => u44 (f a) t st) fr
noncomputable def u46 (f : AV → AV → AV → AV → AV → AV → AV → AV → AV → AV → AV → AV → AV → AV → AV → AV → AV → AV → AV → AV → AV → AV → AV → AV → AV → AV → AV → AV → AV → AV → AV → AV → AV → AV → AV → AV → AV → AV → AV → AV → AV → AV → AV → AV → AV → AV → St → O) : Zr := fun fr st => List.rec (motive := fun _ => O) none (fun a t _ => u45 (f a) t st) fr
noncomputable def u47 (f : AV → AV → AV → AV → AV → AV → AV → AV → AV → AV → AV → AV → AV → AV → AV → AV → AV → AV → AV → AV → AV → AV → AV → AV → AV → AV → AV → AV → AV → AV → AV → AV → AV → AV → AV → AV → AV → AV → AV → AV → AV → AV → AV → AV → AV → AV → AV → St → O) : Zr := fun fr st => List.rec (motive := fun _ => O) none (fun a t _ => u46 (f a) t st) fr
noncomputable def u48 (f : AV → AV → AV → AV → AV → AV → AV → AV → AV → AV → AV → AV → AV → AV → AV → AV → AV → AV → AV → AV → AV → AV → AV → AV → AV → AV → AV → AV → AV → AV → AV → AV → AV → AV → AV → AV → AV → AV → AV → AV → AV → AV → AV → AV → AV → AV → AV → AV → St → O) : Zr := fun fr st => List.rec (motive := fun _ => O) none (fun a t _ => u47 (f a) t st) fr
noncomputable def u49 (f : AV → AV → AV → AV → AV → AV → AV → AV → AV → AV → AV → AV → AV → AV → AV → AV → AV → AV → AV → AV → AV → AV → AV → AV → AV → AV → AV → AV → AV → AV → AV → AV → AV → AV → AV → AV → AV → AV → AV → AV → AV → AV → AV → AV → AV → AV → AV → AV → AV → St → O) : Zr := fun fr st => List.rec (motive := fun _ => O) none (fun a t _ => u48 (f a) t st) fr
noncomputable def u50 (f : AV → AV → AV → AV → AV → AV → AV → AV → AV → AV → AV → AV → AV → AV → AV → AV → AV → AV → AV → AV → AV → AV → AV → AV → AV → AV → AV → AV → AV → AV → AV → AV → AV → AV → AV → AV → AV → AV → AV → AV → AV → AV → AV → AV → AV → AV → AV → AV → AV → AV → St → O) : Zr := fun fr st => List.rec (motive := fun _ => O) none (fun a t _ => u49 (f a) t st) fr
noncomputable def u51 (f : AV → AV → AV → AV → AV → AV → AV → AV → AV → AV → AV → AV → AV → AV → AV → AV → AV → AV → AV → AV → AV → AV → AV → AV → AV → AV → AV → AV → AV → AV → AV → AV → AV → AV → AV → AV → AV → AV → AV → AV → AV → AV → AV → AV → AV → AV → AV → AV → AV → AV → AV → St → O) : Zr := fun fr st => List.rec (motive := fun _ => O) none (fun a t _ => u50 (f a) t st) fr
noncomputable def u52 (f : AV → AV → AV → AV → AV → AV → AV → AV → AV → AV → AV → AV → AV → AV → AV → AV → AV → AV → AV → AV → AV → AV → AV → AV → AV → AV → AV → AV → AV → AV → AV → AV → AV → AV → AV → AV → AV → AV → AV → AV → AV → AV → AV → AV → AV → AV → AV → AV → AV → AV → AV → AV → St → O) : Zr := fun fr st => List.rec (motive := fun _ => O) none (fun a t _ => u51 (f a) t st) fr
noncomputable def u53 (f : AV → AV → AV → AV → AV → AV → AV → AV → AV → AV → AV → AV → AV → AV → AV → AV → AV → AV → AV → AV → AV → AV → AV → AV → AV → AV → AV → AV → AV → AV → AV → AV → AV → AV → AV → AV → AV → AV → AV → AV → AV → AV → AV → AV → AV → AV → AV → AV → AV → AV → AV → AV → AV → St → O) : Zr := fun fr st => List.rec (motive := fun _ => O) none (fun a t _ => u52 (f a) t st) fr
noncomputable def u54 (f : AV → AV → AV → AV → AV → AV → AV → AV → AV → AV → AV → AV → AV → AV → AV → AV → AV → AV → AV → AV → AV → AV → AV → AV → AV → AV → AV → AV → AV → AV → AV → AV → AV → AV → AV → AV → AV → AV → AV → AV → AV → AV → AV → AV → AV → AV → AV → AV → AV → AV → AV → AV → AV → AV → St → O) : Zr := fun fr st => List.rec (motive := fun _ => O) none (fun a t _ => u53 (f a) t st) fr
noncomputable def u55 (f : AV → AV → AV → AV → AV → AV → AV → AV → AV → AV → AV → AV → AV → AV → AV → AV → AV → AV → AV → AV → AV → AV → AV → AV → AV → AV → AV → AV → AV → AV → AV → AV → AV → AV → AV → AV → AV → AV → AV → AV → AV → AV → AV → AV → AV → AV → AV → AV → AV → AV → AV → AV → AV → AV → AV → St → O) : Zr := fun fr st => List.rec (motive := fun _ => O) none (fun a t _ => u54 (f a) t st) fr
noncomputable def u56 (f : AV → AV → AV → AV → AV → AV → AV → AV → AV → AV → AV → AV → AV → AV → AV → AV → AV → AV → AV → AV → AV → AV → AV → AV → AV → AV → AV → AV → AV → AV → AV → AV → AV → AV → AV → AV → AV → AV → AV → AV → AV → AV → AV → AV → AV → AV → AV → AV → AV → AV → AV → AV → AV → AV → AV → AV → St → O) : Zr := fun fr st => List.rec (motive := fun _ => O) none (fun a t _ => u55 (f a) t st) fr
noncomputable def u57 (f : AV → AV → AV → AV → AV → AV → AV → AV → AV → AV → AV → AV → AV → AV → AV → AV → AV → AV → AV → AV → AV → AV → AV → AV → AV → AV → AV → AV → AV → AV → AV → AV → AV → AV → AV → AV → AV → AV → AV → AV → AV → AV → AV → AV → AV → AV → AV → AV → AV → AV → AV → AV → AV → AV → AV → AV → AV → St → O) : Zr := fun fr st => List.rec (motive := fun _ => O) none (fun a t _ => u56 (f a) t st) fr
noncomputable def u58 (f : AV → AV → AV → AV → AV → AV → AV → AV → AV → AV → AV → AV → AV → AV → AV → AV → AV → AV → AV → AV → AV → AV → AV → AV → AV → AV → AV → AV → AV → AV → AV → AV → AV → AV → AV → AV → AV → AV → AV → AV → AV → AV → AV → AV → AV → AV → AV → AV → AV → AV → AV → AV → AV → AV → AV → AV → AV → AV → St → O) : Zr := fun fr st => List.rec (motive := fun _ => O) none (fun a t _ => u57 (f a) t st) fr
noncomputable def u59 (f : AV → AV → AV → AV → AV → AV → AV → AV → AV → AV → AV → AV → AV → AV → AV → AV → AV → AV → AV → AV → AV → AV → AV → AV → AV → AV → AV → AV → AV → AV → AV → AV → AV → AV → AV → AV → AV → AV → AV → AV → AV → AV → AV → AV → AV → AV → AV → AV → AV → AV → AV → AV → AV → AV → AV → AV → AV → AV → AV → St → O) : Zr := fun fr st => List.rec (motive := fun _ => O) none (fun a t _ => u58 (f a) t st) fr
noncomputable def u60 (f : AV → AV → AV → AV → AV → AV → AV → AV → AV → AV → AV → AV → AV → AV → AV → AV → AV → AV → AV → AV → AV → AV → AV → AV → AV → AV → AV → AV → AV → AV → AV → AV → AV → AV → AV → AV → AV → AV → AV → AV → AV → AV → AV → AV → AV → AV → AV → AV → AV → AV → AV → AV → AV → AV → AV → AV → AV → AV → AV → AV → St → O) : Zr := fun fr st => List.rec (motive := fun _ => O) none (fun a t _ => u59 (f a) t st) fr
noncomputable def u61 (f : AV → AV → AV → AV → AV → AV → AV → AV → AV → AV → AV → AV → AV → AV → AV → AV → AV → AV → AV → AV → AV → AV → AV → AV → AV → AV → AV → AV → AV → AV → AV → AV → AV → AV → AV → AV → AV → AV → AV → AV → AV → AV → AV → AV → AV → AV → AV → AV → AV → AV → AV → AV → AV → AV → AV → AV → AV → AV → AV → AV → AV → St → O) : Zr := fun fr st => List.rec (motive := fun _ => O) none (fun a t _ => u60 (f a) t st) fr
noncomputable def u62 (f : AV → AV → AV → AV → AV → AV → AV → AV → AV → AV → AV → AV → AV → AV → AV → AV → AV → AV → AV → AV → AV → AV → AV → AV → AV → AV → AV → AV → AV → AV → AV → AV → AV → AV → AV → AV → AV → AV → AV → AV → AV → AV → AV → AV → AV → AV → AV → AV → AV → AV → AV → AV → AV → AV → AV → AV → AV → AV → AV → AV → AV → AV → St → O) : Zr := fun fr st => List.rec (motive := fun _ => O) none (fun a t _ => u61 (f a) t st) fr
noncomputable def u63 (f : AV → AV → AV → AV → AV → AV → AV → AV → AV → AV → AV → AV → AV → AV → AV → AV → AV → AV → AV → AV → AV → AV → AV → AV → AV → AV → AV → AV → AV → AV → AV → AV → AV → AV → AV → AV → AV → AV → AV → AV → AV → AV → AV → AV → AV → AV → AV → AV → AV → AV → AV → AV → AV → AV → AV → AV → AV → AV → AV → AV → AV → AV → AV → St → O) : Zr := fun fr st => List.rec (motive := fun _ => O) none (fun a t _ => u62 (f a) t st) fr
noncomputable def u64 (f : AV → AV → AV → AV → AV → AV → AV → AV → AV → AV → AV → AV → AV → AV → AV → AV → AV → AV → AV → AV → AV → AV → AV → AV → AV → AV → AV → AV → AV → AV → AV → AV → AV → AV → AV → AV → AV → AV → AV → AV → AV → AV → AV → AV → AV → AV → AV → AV → AV → AV → AV → AV → AV → AV → AV → AV → AV → AV → AV → AV → AV → AV → AV → AV → St → O) : Zr := fun fr st => List.rec (motive := fun _ => O) none (fun a t _ => u63 (f a) t st) fr
end Go.Cb.F
/-
  THE ABSTRACT MACHINE, part 40: answers found by the fast operations are the machine's.
-/
set_option maxRecDepth 4000
set_option linter.unusedVariables false
namespace Go.Cb.F
open Go Go.Cb
/-- all calls have this one answer -/
def cv (x : Option (AV × St)) : CallT := fun _ _ _ => x
section
variable {tbl : Nat → Option AFn}
theorem ev_ofQ {zs : List (List ZF)} (hzs : ∀ l ∈ zs, ∀ z ∈ l, z.OK tbl) {k f : Nat} {as : List AV} {st : St} {r : AV} {st' : St} (h : callQ tbl zs k f as st = some (r, st')) : Ev tbl f as st r st' := ⟨k, callQ_le hzs k _ _ _ _ h⟩
theorem xc_ofQ {zs : List (List ZF)} (hzs : ∀ l ∈ zs, ∀ z ∈ l, z.OK tbl) {z : CallT → Nat → R} {code : ACode} (hr : ∀ c n, Ref c n (z c n) code) {k : Nat} {fr : List AV} {st : St} {out : Out}
    (h : z (callQ tbl zs k) k fr st = some out) : XC tbl code fr st out := ⟨k, exec_le (callQ_le hzs k) (Nat.le_refl _) (hr _ _ _ _ _ h)⟩
theorem xc_of0 {z : CallT → Nat → R} {code : ACode} (hr : ∀ c n, Ref c n (z c n) code) {fr : List AV} {st : St} {out : Out}
    (h : ∀ c n, z c n fr st = some out) : XC tbl code fr st out := ⟨0, hr _ _ _ _ _ (h _ _)⟩
theorem xc_ofC {z : CallT → Nat → R} {code : ACode} (hr : ∀ c n, Ref c n (z c n) code) {f : Nat} {as : List AV} {st0 : St} {r : AV} {st1 : St} (hE : Ev tbl f as st0 r st1) {fr : List AV} {st : St} {out : Out}
    (h1 : ∀ c n, z c n fr st = z (cv (c f as st0)) n fr st) (h2 : ∀ n, z (cv (some (r, st1))) n fr st = some out) : XC tbl code fr st out := by
  obtain ⟨m, hm⟩ := hE
  exact ⟨m, hr _ _ _ _ _ ((h1 _ _).trans (by rw [hm]; exact h2 _))⟩
theorem xc_fin {zs : List (List ZF)} (hzs : ∀ l ∈ zs, ∀ z ∈ l, z.OK tbl) {z : CallT → Nat → R} {code : ACode} (hr : ∀ c n, Ref c n (z c n) code) {k : Nat} {fr : List AV} {st : St} {rs : List ResK} {r : AV × St}
    (h : finK rs (z (callQ tbl zs k) k fr st) = some r) : ∃ e fr' st', XC tbl code fr st (e, fr', st') ∧ finK rs (some (e, fr', st')) = some r := by
  cases hz : z (callQ tbl zs k) k fr st with
  | none => rw [hz] at h; cases h
  | some o =>
    obtain ⟨e, fr', st'⟩ := o
    rw [hz] at h
    exact ⟨e, fr', st', xc_ofQ hzs hr hz, h⟩
end
end Go.Cb.F
