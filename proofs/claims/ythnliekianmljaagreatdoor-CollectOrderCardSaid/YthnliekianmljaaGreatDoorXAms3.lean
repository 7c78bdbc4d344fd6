import Derived.Test.YthnliekianmljaaGreatDoorXAms2
import Derived.Test.YthnliekianmljaaGreatDoorXAms1
/-
 THE ABSTRACT MACHINE, part 29: slices.Clone.
-/
set_option maxRecDepth 4000
set_option linter.unusedSimpArgs false
set_option linter.unusedVariables false
namespace Go.Cb
open Classical

section
variable {c : Cx} {g : Gh} {w : World} {pr : Nat → Option Pl} {bx : Nat → Nat} {σ : Sig} {a : Act} {o : Oper}

theorem slE_ok (fx : Fx c) (h : S c g w pr bx σ a) {t e : TypeId} {i : TypeInfo} {d : Dst} (ho : o.op = .buildSlice t 0 #[]) (hu : c.P.underlying t = some (.slice e)) (hi : c.P.info? e = some i) (hd : dstOK c o.dst d = true)
 {next : Act → World → Prop} {Q : Exit → Act → World → Prop} (hnext : Post c g w a (d.put (.list true []) σ) next) : o.wp c.P a w next Q := by
 have hrun : (execOp a.eval o).run c.P w = .ok (.value (.slice (some (ad w.heap.size 0)) 0 0)) (w.alloc (.cells #[] e)) := by
  have e0 : (Array.map (fun _ : Nat => (default : Value)) (Array.range 0)) = #[] := by apply Array.ext'; simp
  simp [execOp, ho, Instr.buildSlice, run_underlying hu, sizeOf, typeInfo, hi, Instr.fill, newRow, e0]
 unfold Oper.wp
 rw [hrun]
 refine hnext _ _ g pr bx (defers_put _ _ _) (put_ok fx (h.alloc _ _) hd (mine := No) (r := .list true []) ?_ fun _ x => x.elim) (Tr.alloc _ h.st.cli _)
 refine (show ValOK g _ No (.list true []) _ from ⟨?_, fun _ _ => .inl ⟨_, _, rfl⟩, fun _ e => (by cases e)⟩)
 simp only [Rel]
 exact ⟨_, 0, 0, rfl, rfl, Nat.le_refl _, fun _ => rfl, fun h => absurd rfl h⟩

theorem nil_ok (fx : Fx c) (h : S c g w pr bx σ a) {t t' e : TypeId} {x : Operand} {d : Dst} {ad0 : Option Addr} {n cap : Nat} (ho : o.op = .binOp .eql t x (.const (.slice none 0 0)) t') (hu : c.P.underlying t = some (.slice e))
 (hx : a.eval x = .slice ad0 n cap) (hd : dstOK c o.dst d = true) {next : Act → World → Prop} {Q : Exit → Act → World → Prop} (hnext : Post c g w a (d.put (.bool ad0.isNone) σ) next) : o.wp c.P a w next Q := by
 have hrun : (execOp a.eval o).run c.P w = .ok (.value (.bool ad0.isNone)) w := by
  have hg : ∀ v : Value, (eqGuard .eql t x (.const (.slice none 0 0)) (.slice ad0 n cap) (.slice none 0 0)).run c.P w = .ok () w := fun _ => rfl
  have hy : a.eval (.const (.slice none 0 0)) = .slice none 0 0 := rfl
  have heq : (Op.equal t (.slice ad0 n cap) (.slice none 0 0)).run c.P w = .ok ad0.isNone w := by
   rw [equal_eq, Op.equalIn, Sem.run_bind, run_underlying hu, Result.andThen_ok]
   cases ad0 <;> rfl
  simp only [execOp, ho, hx, hy, hg (.bool true), binOp, Sem.run_bind, heq, Result.andThen_ok, Sem.run_pure]
 exact pure_op fx h hd (r := .bool ad0.isNone) hrun (show ValOK g w No (.bool ad0.isNone) (.bool ad0.isNone) from ValOK.mk' (by simp [Rel]) (by simp) (by simp)) hnext

def cloneB (P : Program) (t sz bytes : Nat) : Bool := match P.underlying t with
 | some (.slice e) => match P.info? e with
  | some ie => ie.size == sz && ie.bytes == bytes && decide (0 < bytes) && (match ie.zero with | some z => z.cells.size == sz | none => false)
  | none => false
 | _ => false

structure CloneShape (P : Program) (fn : Func) (t sz bytes : Nat) where
 i0 : Nat
 i1 : Nat
 i2 : Nat
 i3 : Nat
 o0 : Oper
 o1 : Oper
 o2 : Oper
 o3 : Oper
 o4 : Oper
 o5 : Oper
 o6 : Oper
 o7 : Oper
 ty : TypeId
 body : fn.body = some (.seq (.region i0 #[o0] false) (.seq (.seq (.region i1 #[o1, o2] false) (.cond (.tmp 4) (.seq (.region i2 #[o3] false) .ret) .skip)) (.seq (.region i3 #[o4, o5, o6, o7] false) .ret)))
 nt : fn.ntmps = 8
 res : fn.results = #[.tmp 2]
 d0 : o0.dst = some 2 ∧ o0.op = .assign (.const (.slice none 0 0)) ∧ o0.guard = none
 d1 : o1.dst = some 3 ∧ o1.op = .move (.tmp 0) ∧ o1.guard = none
 d2 : o2.dst = some 4 ∧ o2.op = .binOp .eql t (.tmp 3) (.const (.slice none 0 0)) ty ∧ o2.guard = none
 d3 : o3.dst = some 2 ∧ o3.op = .assign (.const (.slice none 0 0)) ∧ o3.guard = none
 d4 : o4.dst = some 5 ∧ o4.op = .buildSlice t 0 #[] ∧ o4.guard = none
 d5 : o5.dst = some 6 ∧ o5.op = .move (.tmp 0) ∧ o5.guard = none
 d6 : o6.dst = some 7 ∧ o6.op = .call { callee := .builtin .append, args := #[.tmp 5, .tmp 6], argTypes := #[t, t] } ∧ o6.guard = none
 d7 : o7.dst = some 2 ∧ o7.op = .assign (.tmp 7) ∧ o7.guard = none
 tb : cloneB P t sz bytes = true

theorem cloneB_spec {P : Program} {t sz bytes : Nat} (h : cloneB P t sz bytes = true) : ∃ e ie z, P.underlying t = some (.slice e) ∧ P.info? e = some ie ∧ ie.zero = some z ∧ ie.size = sz ∧ ie.bytes = bytes ∧ z.cells.size = sz ∧ 0 < bytes := by
 unfold cloneB at h
 split at h
 case h_2 => cases h
 rename_i e hu
 split at h
 case h_2 => cases h
 rename_i ie hi
 simp only [Bool.and_eq_true, beq_iff_eq, decide_eq_true_eq] at h
 obtain ⟨⟨⟨h1, h2⟩, h3⟩, h4⟩ := h
 split at h4
 case h_2 => cases h4
 rename_i z hz
 exact ⟨e, ie, z, hu, hi, hz, h1, h2, by simpa using h4, h3⟩

theorem clone_ok {P : Program} {gt : List (Nat × List AV)} {f t sz bytes : Nat} {fn : Func} (hf : P.funcs[f]? = some fn) (C : CloneShape P fn t sz bytes) : ExtOK P gt f (cloneX sz bytes) := by
 intro args st res st' h hweak g w vs hst _ hrel
 obtain ⟨e, ie, z, tu, ti, tz, tsz, tby, tzs, tb1⟩ := cloneB_spec C.tb
 unfold cloneX at h
 split at h
 case h_2 => cases h
 rename_i own xs
 split at h
 case isFalse => cases h
 rename_i hcond
 simp only [Bool.and_eq_true, decide_eq_true_eq] at hcond
 obtain ⟨hrows, hbytes⟩ := hcond
 simp only [Option.some.injEq, Prod.mk.injEq] at h
 obtain ⟨rfl, rfl⟩ := h
 simp only [RelL] at hrel
 obtain ⟨v, _, rfl, hv, rfl⟩ := hrel
 have hvs := hv
 simp only [Rel] at hvs
 obtain ⟨ad0, n, cap, rfl, rfl, hcap, hnil, hne⟩ := hvs
 let A : Nat → Prop := fun b => w.heap.size ≤ b ∨ g.sr b ≠ none
 let c : Cx := ⟨P, [0, 2], [], 8, [], A⟩
 have fx : Fx c := ⟨show ([0, 2] : List Nat).Nodup by decide, show ∀ s ∈ ([0, 2] : List Nat), s < 8 by decide⟩
 have hown : own = false := by
  have := hweak (.list own xs) (by simp)
  simpa [AV.weak] using this.symm
 subst hown
 refine calls_of_wp hf C.body ?_
 have hS : S c g w (fun _ => none) (fun _ => 0) ⟨[.list false xs, .undef], fun _ => .undef, st⟩ { tmps := #[Value.slice ad0 xs.length cap] ++ Array.replicate (fn.ntmps - 1) undef, defers := [] } := by
  refine ⟨⟨by simp [c, C.nt], rfl, fun i s hs => ?_, fun s _ => ValOK.undef, fun b p hb => (by cases hb), fun i cs hi => ?_⟩, hst, fun e he => (by cases he), fun b hb => .inl hb, fun b p hb => .inr (by rw [hb]; simp)⟩
  · match i, hs with
    | 0, hs =>
     simp only [c, List.getElem?_cons_zero, Option.some.injEq] at hs
     subst hs
     have hval : ValOK g w (fun b => (fun _ => none : Nat → Option Pl) b = some (.var 0)) (AV.list false xs).weak (.slice ad0 xs.length cap) := ValOK.of_weak hv
     have e0 : (#[Value.slice ad0 xs.length cap] ++ Array.replicate (fn.ntmps - 1) undef).getD 0 undef = .slice ad0 xs.length cap := by rw [C.nt]; rfl
     show VarOK g w (fun _ => none) (fun _ => 0) 0 (.list false xs) ((#[Value.slice ad0 xs.length cap] ++ Array.replicate (fn.ntmps - 1) undef).getD 0 undef)
     rw [e0]
     exact hval
    | 1, hs => exact VarOK.undef
    | i + 2, hs => simp [c] at hs
  · match i, hi with
    | 0, hi => simp at hi
    | 1, hi => simp at hi
    | i + 2, hi => simp at hi
 -- the end
 have fin : ∀ (x : AV) (a' : Act) (w' : World) (g' : Gh) (pr' : Nat → Option Pl) (bx' : Nat → Nat) (τ' : Nat → AV), a'.defers = [] → S c g' w' pr' bx' ⟨[x, .list true xs], τ', st⟩ a' → Tr c.A g w g' w' →
  bodyPost P fn (CallPost g w st (.list true xs)) .ret a' w' := by
  intro x a' w' g' pr' bx' τ' hd hS' ht
  refine ⟨hd, ?_⟩
  obtain ⟨us, hus, hul, hall⟩ := res_ok (c := c) hS' (rs := fn.results.toList) (ks := [.vs 1]) (vs := [.list true xs]) (by rw [C.res]; rfl) rfl
  refine ⟨_, results_run hus, _, g', rfl, hS'.st, ⟨ht.ext, ht.size, ht.env, fun b hb hs _ => ht.keep b hb hs fun hA => ?_⟩, ?_⟩
  · rcases hA with hA | hA
    · omega
    · exact hA hs
  · match us, hul, hall with
    | [u], _, hall =>
     refine (hall 0 (.list true xs) u rfl rfl).mono (Ext.refl _ _) fun b hb => ⟨?_, rfl, fun _ x => x⟩
     obtain ⟨p, hp⟩ := hb
     obtain ⟨q1, q2, q3⟩ := hS'.fr.prv b p hp
     exact ⟨q1, q2, q3⟩
 refine wp_seq (wp_region ?_)
 show wpOps P #[C.o0] _ [0] _ _
 rw [wpOps_cons]
 refine opAt rfl C.d0.2.2 (mv_ok (c := c) fx hS (.inr C.d0.2.1) (p := .c (.list true [])) (d := .v 1) rfl (by rw [C.d0.1]; rfl) fun a1 w1 g1 pr1 bx1 hd1 hS1 ht1 => ?_)
 show (Code.seq _ _).wp P _ a1 w1
 refine wp_seq (wp_seq (wp_region ?_))
 show wpOps P #[C.o1, C.o2] _ [0, 1] _ _
 rw [wpOps_cons]
 refine opAt rfl C.d1.2.2 (mv_ok (c := c) fx hS1 (.inl C.d1.2.1) (p := .v 0) (d := .t 3) rfl (by rw [C.d1.1]; rfl) fun a2 w2 g2 pr2 bx2 hd2 hS2 ht2 => ?_)
 rw [wpOps_cons]
 have hA2 := read_ok hS2 (x := .tmp 3) (p := .t 3) rfl
 have hr2 : Rel g2 w2 (.list false xs) (a2.eval (.tmp 3)) := ValOK.rel hA2
 have hr2' := hr2
 simp only [Rel] at hr2'
 obtain ⟨ad2, n2, cap2, hev2, hn2, hcap2, hnil2, hne2⟩ := hr2'
 refine opAt rfl C.d2.2.2 (nil_ok (c := c) fx hS2 C.d2.2.1 tu hev2 (d := .t 4) (by rw [C.d2.1]; rfl) fun a3 w3 g3 pr3 bx3 hd3 hS3 ht3 => ?_)
 show (Code.cond _ _ _).wp P _ a3 w3
 have ht03 := (ht1.trans ht2).trans ht3
 have hd03 : a3.defers = [] := hd3.trans (hd2.trans hd1)
 have hb := cond_ok hS3 (x := .tmp 4) (y := .t 4) rfl (b := ad2.isNone) rfl
 refine wp_cond hb ?_
 cases ad2 with
 | none =>
  have hx0 : xs = [] := by
   have := hnil2 rfl
   exact List.eq_nil_of_length_eq_zero (by omega)
  refine wp_seq (wp_region ?_)
  show wpOps P #[C.o3] _ [0] _ _
  rw [wpOps_cons]
  refine opAt rfl C.d3.2.2 (mv_ok (c := c) fx hS3 (.inr C.d3.2.1) (p := .c (.list true [])) (d := .v 1) rfl (by rw [C.d3.1]; rfl) fun a4 w4 g4 pr4 bx4 hd4 hS4 ht4 => ?_)
  show Code.ret.wp P _ a4 w4
  refine wp_ret ?_
  show bodyPost P fn _ .ret a4 w4
  subst hx0
  exact fin _ a4 w4 g4 pr4 bx4 _ (hd4.trans hd03) hS4 (ht03.trans ht4)
 | some ad3 =>
  refine wp_skip ?_
  show (Code.seq _ _).wp P _ a3 w3
  refine wp_seq (wp_region ?_)
  show wpOps P #[C.o4, C.o5, C.o6, C.o7] _ [0, 1, 2, 3] _ _
  rw [wpOps_cons]
  refine opAt rfl C.d4.2.2 (slE_ok (c := c) fx hS3 C.d4.2.1 tu ti (d := .t 5) (by rw [C.d4.1]; rfl) fun a4 w4 g4 pr4 bx4 hd4 hS4 ht4 => ?_)
  rw [wpOps_cons]
  refine opAt rfl C.d5.2.2 (mv_ok (c := c) fx hS4 (.inl C.d5.2.1) (p := .v 0) (d := .t 6) rfl (by rw [C.d5.1]; rfl) fun a5 w5 g5 pr5 bx5 hd5 hS5 ht5 => ?_)
  rw [wpOps_cons]
  refine opAt rfl C.d6.2.2 (app_ok (c := c) fx hS5 C.d6.2.1 rfl tu ti tz tsz tby tzs tb1 (p0 := .ts 5) (p1 := .t 6) (d := .t 7) rfl rfl (by rw [C.d6.1]; rfl) (by rw [C.d6.1]; rfl) (xs := []) (ys := xs) (own := false) rfl rfl rfl hrows (by simpa using hbytes) fun a6 w6 g6 pr6 bx6 hd6 hS6 ht6 => ?_)
  rw [wpOps_cons]
  refine opAt rfl C.d7.2.2 (mv_ok (c := c) fx hS6 (.inr C.d7.2.1) (p := .ts 7) (d := .v 1) rfl (by rw [C.d7.1]; rfl) fun a7 w7 g7 pr7 bx7 hd7 hS7 ht7 => ?_)
  show Code.ret.wp P _ a7 w7
  refine wp_ret ?_
  show bodyPost P fn _ .ret a7 w7
  exact fin _ a7 w7 g7 pr7 bx7 _ (hd7.trans (hd6.trans (hd5.trans (hd4.trans hd03)))) hS7 ((((ht03.trans ht4).trans ht5).trans ht6).trans ht7)
end
end Go.Cb
/-
 THE ABSTRACT MACHINE, part 30: from an abstract answer to the model's call.
-/
set_option maxRecDepth 4000
set_option linter.unusedVariables false
namespace Go.Cb
open Classical

def gh0 (W : World) : Gh := { n := 0, m := fun _ => 0, cl := fun b _ => b < W.heap.size, sr := fun _ => none, cp := fun _ => 0 }

theorem srel0 (W : World) : SRel (gh0 W) W [] := ⟨rfl, fun o ob h => by simp at h, fun b p h => (by cases h), fun b f h => h⟩

structure Kept (W W' : World) : Prop where
 kept : W.keptBut W' (fun _ => False)
 fz : ∀ a : Addr, a.block < W.heap.size → W'.frozen? a = W.frozen? a
 size : W.heap.size ≤ W'.heap.size
 old : ∀ b, b < W.heap.size → W'.heap[b]? = W.heap[b]?

theorem answer {P : Program} {gt : List (Nat × List AV)} {tbl : Nat → Option AFn} (hP : ProgOK P gt tbl) {n f : Nat} {args : List AV} {b : Bool} {st' : St} (h : callF tbl n f args [] = some (.bool b, st')) (hw : ∀ x ∈ args, x.weak = x)
 {W : World} {vs : List Value} (hg : Globs gt (gh0 W) W) (hr : RelL (gh0 W) W args vs) : Calls P f vs.toArray W (fun e W' => e = .returned (.bool b) ∧ Kept W W') := by
 refine ((callF_ok hP n f args [] _ _ h hw).2 (gh0 W) W vs (srel0 W) hg hr).mono fun e W' he => ?_
 obtain ⟨v, g', rfl, _, ht, hv⟩ := he
 have hv := hv.rel
 simp only [Rel] at hv
 subst hv
 have hold : ∀ b, b < W.heap.size → W'.heap[b]? = W.heap[b]? := fun b hb => (ht.keep b hb rfl fun x => x).1.1
 refine ⟨rfl, ⟨ht.env.os, ht.env.out, fun i hi => ?_⟩, ht.env.fz, ht.size, hold⟩
 rw [hold i hi]
 cases hq : W.heap[i]? with
 | none => simp
 | some o => cases o <;> simp
end Go.Cb
/-
 THE ABSTRACT MACHINE, part 28: running told as a chain, for reckoning with unknowns.
-/
set_option maxRecDepth 4000
set_option linter.unusedSimpArgs false
set_option linter.unusedVariables false
namespace Go.Cb
open Classical

theorem spine {α : Sort _} {a b : α} (h : a = b) : a = b := by
 cases h
 rfl

def obind {α β : Type} (x : Option α) (f : α → Option β) : Option β := match x with
 | some a => f a
 | none => none
theorem obind_some {α β : Type} (a : α) (f : α → Option β) : obind (some a) f = f a := spine rfl
theorem obind_congr {α β : Type} {x x' : Option α} {f : α → Option β} (h : x = x') : obind x f = obind x' f := by rw [h]

def p1 (x : Option (AV × AV × St)) : Option AV := match x with
 | some (r, _, _) => some r
 | none => none
theorem p1_some (r b : AV) (st : St) : p1 (some (r, b, st)) = some r := spine rfl
def p2 (x : Option (AV × AV × St)) : Option (AV × St) := match x with
 | some (r, _, st) => some (r, st)
 | none => none
theorem p2_some (r b : AV) (st : St) : p2 (some (r, b, st)) = some (r, st) := spine rfl

def gv (x : AV) (want : Bool) (e : Option AV) : Option AV := match x with
 | .bool b => if b == want then e else some (.tuple [])
 | .tuple [] => some (.tuple [])
 | _ => none
def gv2 (x : AV) (want : Bool) (st : St) (e : Option (AV × St)) : Option (AV × St) := match x with
 | .bool b => if b == want then e else some (.tuple [], st)
 | .tuple [] => some (.tuple [], st)
 | _ => none
theorem gv_none (want : Bool) (e : Option AV) : gv (.tuple []) want e = some (.tuple []) := spine rfl

theorem gv_tt (e : Option AV) : gv (.bool true) true e = e := spine rfl
theorem gv_tf (e : Option AV) : gv (.bool true) false e = some (.tuple []) := spine rfl
theorem gv_ff (e : Option AV) : gv (.bool false) false e = e := spine rfl
theorem gv_ft (e : Option AV) : gv (.bool false) true e = some (.tuple []) := spine rfl
theorem gv2_tt (st : St) (e : Option (AV × St)) : gv2 (.bool true) true st e = e := spine rfl
theorem gv2_tf (st : St) (e : Option (AV × St)) : gv2 (.bool true) false st e = some (.tuple [], st) := spine rfl
theorem gv2_ff (st : St) (e : Option (AV × St)) : gv2 (.bool false) false st e = e := spine rfl
theorem gv2_ft (st : St) (e : Option (AV × St)) : gv2 (.bool false) true st e = some (.tuple [], st) := spine rfl
theorem gv2_none (want : Bool) (st : St) (e : Option (AV × St)) : gv2 (.tuple []) want st e = some (.tuple [], st) := spine rfl
theorem gv2_congr {x : AV} {want : Bool} {st : St} {e : Option (AV × St)} {x' : AV} (h : x = x') : gv2 x want st e = gv2 x' want st e := by rw [h]

def anySteals (xs : List Opd) : Bool := xs.any Opd.steals

theorem spend_noSteal : ∀ {xs : List Opd} {σ : Sig}, anySteals xs = false → spendAll xs σ = σ
 | [], _, _ => rfl
 | x :: xs, σ, h => by
  simp only [anySteals, List.any_cons, Bool.or_eq_false_iff] at h
  have e : x.spend σ = σ := by cases x <;> simp_all [Opd.spend, Opd.steals]
  rw [spendAll, e]
  exact spend_noSteal (xs := xs) h.2

def goK (call : CallT) {α : Type} (o : AOper) (σ : Sig) (k : Sig → Option α) : Option α :=
 match o.kind.setSt || o.kind.alters || anySteals o.args with
 | false => obind (p1 (sem o.kind call (o.args.map (·.read σ)) (boxOf' o.box σ) σ.st)) fun r => k (o.dst.put r σ)
 | true => match o.kind.alters || anySteals o.args with
  | false => obind (p2 (sem o.kind call (o.args.map (·.read σ)) (boxOf' o.box σ) σ.st)) fun r => k (o.dst.put r.1 { σ with st := r.2 })
  | true => obind (sem o.kind call (o.args.map (·.read σ)) (boxOf' o.box σ) σ.st) fun r =>
   let σ := spendAll o.args σ
   match o.box with
   | some i => k (o.dst.put r.1 { σ with fr := σ.fr.set i r.2.1, st := r.2.2 })
   | none => k (o.dst.put r.1 { σ with st := r.2.2 })
where boxOf' (b : Option Nat) (σ : Sig) : AV := match b with | some i => σ.fr.getD i .undef | none => .undef

def stepK (call : CallT) {α : Type} (o : AOper) (σ : Sig) (k : Sig → Option α) : Option α :=
 match o.guard with
 | none => goK call o σ k
 | some (x, want) => match o.kind.setSt || o.kind.alters || anySteals o.args with
  | false => obind (gv (x.read σ) want (p1 (sem o.kind call (o.args.map (·.read σ)) (goK.boxOf' o.box σ) σ.st))) fun r => k (o.dst.put r σ)
  | true => match o.kind.alters || anySteals o.args with
   | false => obind (gv2 (x.read σ) want σ.st (p2 (sem o.kind call (o.args.map (·.read σ)) (goK.boxOf' o.box σ) σ.st))) fun r => k (o.dst.put r.1 { σ with st := r.2 })
   | true => match x.read σ with
    | .bool b => if b == want then goK call o σ k else k (o.dst.put (.tuple []) σ)
    | .tuple [] => k (o.dst.put (.tuple []) σ)
    | _ => none

def runK (call : CallT) {α : Type} : List AOper → Sig → (Sig → Option α) → Option α
 | [], σ, k => k σ
 | o :: os, σ, k => stepK call o σ fun σ => runK call os σ k

theorem set_getD' (fr : List AV) (i : Nat) : fr.set i (fr.getD i .undef) = fr := by
 apply List.ext_getElem?
 intro j
 rw [List.getElem?_set]
 by_cases e : i = j
 · subst e
   rw [if_pos rfl]
   split
   · rename_i h; simp [h]
   · rename_i h; rw [List.getElem?_eq_none (by omega)]
 · rw [if_neg e]

theorem goK_eq {call : CallT} {α : Type} {o : AOper} {σ : Sig} {k : Sig → Option α} : goK call o σ k = obind (goOp call o σ) k := by
 have hb : goK.boxOf' o.box σ = (match o.box with | some i => σ.fr.getD i .undef | none => .undef) := rfl
 unfold goK
 rw [goOp_eq, hb]
 split
 · rename_i hp
   simp only [Bool.or_eq_false_iff] at hp
   obtain ⟨⟨h1, h2⟩, h3⟩ := hp
   cases hs : sem o.kind call (o.args.map (·.read σ)) (match o.box with | some i => σ.fr.getD i .undef | none => .undef) σ.st with
   | none => rfl
   | some x =>
    obtain ⟨r, b', st'⟩ := x
    have e1 := sem_st h1 hs
    have e2 := sem_bx h2 hs
    subst e1
    simp only [p1, obind_some, spend_noSteal h3]
    cases hbx : o.box with
    | none => rfl
    | some i =>
     simp only [hbx] at e2
     rw [e2]
     simp only [set_getD', obind_some]
 · rename_i hp
   split
   · rename_i hq
     simp only [Bool.or_eq_false_iff] at hq
     obtain ⟨h2, h3⟩ := hq
     cases hs : sem o.kind call (o.args.map (·.read σ)) (match o.box with | some i => σ.fr.getD i .undef | none => .undef) σ.st with
     | none => rfl
     | some x =>
      obtain ⟨r, b', st'⟩ := x
      have e2 := sem_bx h2 hs
      simp only [p2, obind_some, spend_noSteal h3]
      cases hbx : o.box with
      | none => rfl
      | some i =>
       simp only [hbx] at e2
       rw [e2]
       simp only [set_getD', obind_some]
   · cases hs : sem o.kind call (o.args.map (·.read σ)) (match o.box with | some i => σ.fr.getD i .undef | none => .undef) σ.st with
     | none => rfl
     | some x =>
      obtain ⟨r, b', st'⟩ := x
      simp only [obind_some]
      cases hbx : o.box with
      | none => rfl
      | some i => rfl

theorem gv_bind {α : Type} {x : AV} {want : Bool} {e : Option AV} {f : AV → Option α} : obind (gv x want e) f =
 (match x with | .bool b => if b == want then obind e f else f (.tuple []) | .tuple [] => f (.tuple []) | _ => none) := by
 unfold gv
 split
 · split <;> rfl
 · rfl
 · rfl

theorem gv2_bind {α : Type} {x : AV} {want : Bool} {st : St} {e : Option (AV × St)} {f : AV × St → Option α} : obind (gv2 x want st e) f =
 (match x with | .bool b => if b == want then obind e f else f (.tuple [], st) | .tuple [] => f (.tuple [], st) | _ => none) := by
 unfold gv2
 split
 · split <;> rfl
 · rfl
 · rfl

theorem stepK_eq {call : CallT} {α : Type} {o : AOper} {σ : Sig} {k : Sig → Option α} : stepK call o σ k = obind (stepOp call o σ) k := by
 unfold stepK stepOp
 cases hg : o.guard with
 | none => exact goK_eq
 | some xw =>
  obtain ⟨x, want⟩ := xw
  simp only
  split
  · rename_i hp
    have hgo : obind (p1 (sem o.kind call (o.args.map (·.read σ)) (goK.boxOf' o.box σ) σ.st)) (fun r => k (o.dst.put r σ)) = obind (goOp call o σ) k := by
     have := goK_eq (call := call) (o := o) (σ := σ) (k := k)
     unfold goK at this
     rw [hp] at this
     exact this
    rw [gv_bind]
    cases hx : x.read σ <;> try rfl
    · dsimp only
      split
      · exact hgo
      · rfl
    · rename_i vs
      cases vs <;> rfl
  · rename_i hp
    split
    · rename_i hq
      have hgo : obind (p2 (sem o.kind call (o.args.map (·.read σ)) (goK.boxOf' o.box σ) σ.st)) (fun r => k (o.dst.put r.1 { σ with st := r.2 })) = obind (goOp call o σ) k := by
       have := goK_eq (call := call) (o := o) (σ := σ) (k := k)
       unfold goK at this
       rw [hp, hq] at this
       exact this
      rw [gv2_bind]
      cases hx : x.read σ <;> try rfl
      · dsimp only
        split
        · exact hgo
        · rfl
      · rename_i vs
        cases vs <;> rfl
    · cases hx : x.read σ <;> try rfl
      · dsimp only
        split
        · exact goK_eq
        · rfl
      · rename_i vs
        cases vs <;> rfl

theorem runK_eq {call : CallT} {α : Type} {k : Sig → Option α} : ∀ {ops : List AOper} {σ : Sig}, runK call ops σ k = obind (runOps call ops σ) k
 | [], σ => rfl
 | o :: os, σ => by
  simp only [runK, runOps, stepK_eq]
  cases hs : stepOp call o σ with
  | none => rfl
  | some σ1 => exact runK_eq

def br (c : AV) (a b : Option Out) : Option Out := match c with
 | .bool true => a
 | .bool false => b
 | _ => none
theorem exec_reg (call : CallT) (n : Nat) (kill : List Nat) (ps : List AOper) (fr : List AV) (st : St) :
 exec call n (.reg kill ps) fr st = runK call ps ⟨killAll kill fr, fun _ => .undef, st⟩ fun σ => some (.normal, σ.fr, σ.st) := by
 rw [runK_eq]
 simp only [exec, fL_eq]
 cases runOps call ps ⟨killAll kill fr, fun _ => .undef, st⟩ <;> rfl
theorem exec_test (call : CallT) (n : Nat) (kill : List Nat) (ps : List AOper) (c : Opd) (a b : ACode) (fr : List AV) (st : St) :
 exec call n (.test kill ps c a b) fr st = runK call ps ⟨killAll kill fr, fun _ => .undef, st⟩ fun σ => br (c.read σ) (exec call n a σ.fr σ.st) (exec call n b σ.fr σ.st) := by
 rw [runK_eq]
 simp only [exec, fL_eq]
 cases runOps call ps ⟨killAll kill fr, fun _ => .undef, st⟩ with
 | none => rfl
 | some σ =>
  simp only [obind_some]
  generalize c.read σ = y
  cases y <;> rfl

def locOf (i : Nat) (x : AV) : AV := match x with
 | .box _ => .loc i 0
 | _ => .undef

def seqK (x : Option Out) (f : List AV → St → Option Out) : Option Out := match x with
 | some (.normal, fr, st) => f fr st
 | r => r
theorem seqK_normal (fr : List AV) (st : St) (f : List AV → St → Option Out) : seqK (some (.normal, fr, st)) f = f fr st := spine rfl
theorem seqK_exit (id : Nat) (fr : List AV) (st : St) (f : List AV → St → Option Out) : seqK (some (.exit id, fr, st)) f = some (.exit id, fr, st) := spine rfl
theorem seqK_ret (fr : List AV) (st : St) (f : List AV → St → Option Out) : seqK (some (.ret, fr, st)) f = some (.ret, fr, st) := spine rfl
theorem seqK_congr {x x' : Option Out} {f : List AV → St → Option Out} (h : x = x') : seqK x f = seqK x' f := by rw [h]
theorem exec_seqK (call : CallT) (n : Nat) (a b : ACode) (fr : List AV) (st : St) : exec call n (.seq a b) fr st = seqK (exec call n a fr st) (exec call n b) := by
 simp only [exec, seqK]
 split <;> rename_i h <;> simp only [h]

def finK (rs : List ResK) (x : Option Out) : Option (AV × St) := match x with
 | some (.exit _, _, _) => none
 | some (_, fr, st) => match getAll rs fr with
  | some [v] => some (v, st)
  | some vs => some (.tuple vs, st)
  | none => none
 | none => none
theorem run_finK (fn : AFn) (call : CallT) (n : Nat) (args : List AV) (st : St) (h : args.length = fn.np) :
 fn.run call n args st = finK fn.results (exec call n fn.code (args ++ List.replicate (fn.nv - fn.np) .undef) st) := by
 unfold AFn.run finK
 rw [if_pos h]
 cases exec call n fn.code (args ++ List.replicate (fn.nv - fn.np) .undef) st with
 | none => rfl
 | some x =>
  obtain ⟨e, fr, st'⟩ := x
  cases e <;> dsimp only <;> cases getAll fn.results fr with
  | none => rfl
  | some vs =>
   match vs with
   | [] => rfl
   | [v] => rfl
   | _ :: _ :: _ => rfl
theorem exec_ret (call : CallT) (n : Nat) (fr : List AV) (st : St) : exec call n .ret fr st = some (.ret, fr, st) := by simp only [exec]
theorem exec_exit (call : CallT) (n id : Nat) (fr : List AV) (st : St) : exec call n (.exit id) fr st = some (.exit id, fr, st) := by simp only [exec]
theorem exec_skip (call : CallT) (n : Nat) (fr : List AV) (st : St) : exec call n .skip fr st = some (.normal, fr, st) := by simp only [exec]
end Go.Cb
/-
 THE ABSTRACT MACHINE, part 31: more fuel does no harm.
-/
set_option maxRecDepth 4000
set_option linter.unusedSimpArgs false
set_option linter.unusedVariables false
namespace Go.Cb
open Classical

def CallLe (c c' : CallT) : Prop := ∀ f as st r, c f as st = some r → c' f as st = some r

theorem sem_le {c c' : CallT} (h : CallLe c c') {k : Kind} {as : List AV} {b : AV} {st : St} {r : AV × AV × St} (hs : sem k c as b st = some r) : sem k c' as b st = some r := by
 cases k
 case call f =>
  simp only [sem, semCall] at hs ⊢
  split at hs
  · rename_i hp
    rw [if_pos hp]
    obtain ⟨x, hx, rfl⟩ := Option.map_eq_some_iff.1 hs
    rw [h _ _ _ _ hx]
    rfl
  · cases hs
 case callA f m =>
  simp only [sem, semCallA] at hs ⊢
  cases hc : semCall f c (as.take m) b st with
  | none => rw [hc] at hs; cases hs
  | some x =>
   rw [hc] at hs
   have : semCall f c' (as.take m) b st = some x := by
    unfold semCall at hc ⊢
    split at hc
    · rename_i hp
      rw [if_pos hp]
      obtain ⟨y, hy, rfl⟩ := Option.map_eq_some_iff.1 hc
      rw [h _ _ _ _ hy]
      rfl
    · cases hc
   rw [this]
   exact hs
 case callV =>
  simp only [sem] at hs ⊢
  unfold semCallV at hs ⊢
  split at hs
  · split at hs
    · rename_i hp
      simp only [if_pos hp]
      obtain ⟨x, hx, rfl⟩ := Option.map_eq_some_iff.1 hs
      rw [h _ _ _ _ hx]
      rfl
    · cases hs
  · cases hs
 all_goals exact hs

theorem goOp_le {c c' : CallT} (h : CallLe c c') {o : AOper} {σ σ' : Sig} (hs : goOp c o σ = some σ') : goOp c' o σ = some σ' := by
 obtain ⟨r, b', st', h1, rfl⟩ := goOp_some hs
 exact goOp_mk (sem_le h h1)
theorem stepOp_le {c c' : CallT} (h : CallLe c c') {o : AOper} {σ σ' : Sig} (hs : stepOp c o σ = some σ') : stepOp c' o σ = some σ' := by
 unfold stepOp at hs ⊢
 split at hs
 · exact goOp_le h hs
 · split at hs
   · split at hs
     · rename_i hc; rw [if_pos hc]; exact goOp_le h hs
     · rename_i hc; rw [if_neg hc]; exact hs
   · exact hs
   · cases hs
theorem runOps_le {c c' : CallT} (h : CallLe c c') : ∀ {os : List AOper} {σ σ' : Sig}, runOps c os σ = some σ' → runOps c' os σ = some σ'
 | [], _, _, hs => hs
 | o :: os, σ, σ', hs => by
  simp only [runOps] at hs ⊢
  cases hq : stepOp c o σ with
  | none => simp [hq] at hs
  | some σ1 =>
   simp only [hq] at hs
   simp only [stepOp_le h hq]
   exact runOps_le h hs
theorem iter_le {body body' : List AV → St → Option Out} (h : ∀ fr st r, body fr st = some r → body' fr st = some r) : ∀ {n m : Nat} {fr : List AV} {st : St} {r : Out}, n ≤ m → iter body n fr st = some r → iter body' m fr st = some r
 | 0, _, _, _, _, _, hs => by simp [iter] at hs
 | n + 1, 0, _, _, _, hle, _ => by omega
 | n + 1, m + 1, fr, st, r, hle, hs => by
  simp only [iter] at hs ⊢
  cases hq : body fr st with
  | none => simp [hq] at hs
  | some o =>
   rw [hq] at hs
   rw [h _ _ _ hq]
   obtain ⟨e, fr1, st1⟩ := o
   cases e with
   | normal => exact iter_le h (by omega) hs
   | exit id => exact hs
   | ret => exact hs
theorem exec_le {c c' : CallT} (h : CallLe c c') {n m : Nat} (hle : n ≤ m) : ∀ {x : ACode} {fr : List AV} {st : St} {r : Out}, exec c n x fr st = some r → exec c' m x fr st = some r
 | .skip, _, _, _, hs => hs
 | .exit _, _, _, _, hs => hs
 | .ret, _, _, _, hs => hs
 | .reg kill ops, fr, st, r, hs => by
  simp only [exec] at hs ⊢
  cases hq : runOps c ops ⟨killAll kill fr, fun _ => .undef, st⟩ with
  | none => simp [hq] at hs
  | some σ => rw [hq] at hs; rw [runOps_le h hq]; exact hs
 | .test kill ops x a b, fr, st, r, hs => by
  rw [exec_test] at hs ⊢
  rw [runK_eq] at hs ⊢
  cases hq : runOps c ops ⟨killAll kill fr, fun _ => .undef, st⟩ with
  | none => rw [hq] at hs; cases hs
  | some σ =>
   rw [hq] at hs
   rw [runOps_le h hq]
   rw [obind_some] at hs ⊢
   unfold br at hs ⊢
   split at hs
   · exact exec_le h hle hs
   · exact exec_le h hle hs
   · cases hs
 | .either kill a b, fr, st, r, hs => by
  simp only [exec] at hs ⊢
  obtain ⟨oa, ob, ea, eb, ka, kb⟩ := agree_some hs
  rw [exec_le h hle ea, exec_le h hle eb, agree_same (ka.trans kb.symm), ka]
 | .seq a b, fr, st, r, hs => by
  rw [exec_seqK] at hs ⊢
  cases hq : exec c n a fr st with
  | none => rw [hq] at hs; cases hs
  | some o =>
   rw [hq] at hs
   rw [exec_le h hle hq]
   obtain ⟨e, fr1, st1⟩ := o
   cases e with
   | normal => exact exec_le h hle hs
   | exit id => exact hs
   | ret => exact hs
 | .blk id a, fr, st, r, hs => by
  simp only [exec] at hs ⊢
  cases hq : exec c n a fr st with
  | none => rw [hq] at hs; cases hs
  | some o => rw [hq] at hs; rw [exec_le h hle hq]; exact hs
 | .loop a, fr, st, r, hs => by
  simp only [exec] at hs ⊢
  exact iter_le (fun _ _ _ hb => exec_le h hle hb) hle hs
theorem run_le {c c' : CallT} (h : CallLe c c') {n m : Nat} (hle : n ≤ m) {fn : AFn} {args : List AV} {st : St} {r : AV × St} (hs : fn.run c n args st = some r) : fn.run c' m args st = some r := by
 have hl : args.length = fn.np := by
  unfold AFn.run at hs
  split at hs
  · assumption
  · cases hs
 rw [run_finK _ _ _ _ _ hl] at hs ⊢
 cases hq : exec c n fn.code (args ++ List.replicate (fn.nv - fn.np) .undef) st with
 | none => rw [hq] at hs; cases hs
 | some o => rw [hq] at hs; rw [exec_le h hle hq]; exact hs
theorem callF_le {tbl : Nat → Option AFn} : ∀ {n m : Nat}, n ≤ m → CallLe (callF tbl n) (callF tbl m)
 | 0, _, _, _, _, _, _, hs => by simp [callF] at hs
 | n + 1, 0, hle, _, _, _, _, _ => by omega
 | n + 1, m + 1, hle, f, as, st, r, hs => by
  simp only [callF] at hs ⊢
  cases htb : tbl f with
  | none => simp [htb] at hs
  | some fn =>
   simp only [htb] at hs ⊢
   cases he : fn.ext with
   | some e => simp only [he] at hs ⊢; exact hs
   | none =>
    simp only [he] at hs ⊢
    exact run_le (callF_le (by omega)) (by omega) hs

def Ev (tbl : Nat → Option AFn) (f : Nat) (as : List AV) (st : St) (r : AV) (st' : St) : Prop := ∃ n, callF tbl n f as st = some (r, st')
theorem Ev.ge {tbl : Nat → Option AFn} {f : Nat} {as : List AV} {st : St} {r : AV} {st' : St} (h : Ev tbl f as st r st') : ∃ n0, ∀ n, n0 ≤ n → callF tbl n f as st = some (r, st') :=
 let ⟨n, hn⟩ := h; ⟨n, fun m hm => callF_le hm _ _ _ _ hn⟩
end Go.Cb
/-
 THE ABSTRACT MACHINE, part 32: rules for what code comes to, with enough fuel.
-/
set_option maxRecDepth 4000
set_option linter.unusedVariables false
namespace Go.Cb
open Classical

section
variable {tbl : Nat → Option AFn}

def XC (tbl : Nat → Option AFn) (x : ACode) (fr : List AV) (st : St) (out : Out) : Prop := ∃ n, exec (callF tbl n) n x fr st = some out
theorem XC.ge {x : ACode} {fr : List AV} {st : St} {out : Out} (h : XC tbl x fr st out) : ∃ n0, ∀ n, n0 ≤ n → exec (callF tbl n) n x fr st = some out :=
 let ⟨n, hn⟩ := h; ⟨n, fun m hm => exec_le (callF_le hm) hm hn⟩

def LX (tbl : Nat → Option AFn) (x : ACode) (fr : List AV) (st : St) (out : Out) : Prop := ∃ n k, iter (exec (callF tbl n) n x) k fr st = some out

theorem LX.done {x : ACode} {fr : List AV} {st : St} {e : Ex} {fr' : List AV} {st' : St} (h : XC tbl x fr st (e, fr', st')) (he : e ≠ .normal) : LX tbl x fr st (e, fr', st') := by
 obtain ⟨n, hn⟩ := h
 refine ⟨n, 1, ?_⟩
 simp only [iter, hn]
 cases e with
 | normal => exact absurd rfl he
 | exit id => rfl
 | ret => rfl
theorem LX.step {x : ACode} {fr fr1 : List AV} {st st1 : St} {out : Out} (h : XC tbl x fr st (.normal, fr1, st1)) (h' : LX tbl x fr1 st1 out) : LX tbl x fr st out := by
 obtain ⟨n, hn⟩ := h
 obtain ⟨m, k, hm⟩ := h'
 refine ⟨max n m, k + 1, ?_⟩
 have h1 := exec_le (callF_le (tbl := tbl) (Nat.le_max_left n m)) (Nat.le_max_left n m) hn
 simp only [iter, h1]
 exact iter_le (fun _ _ _ hb => exec_le (callF_le (Nat.le_max_right n m)) (Nat.le_max_right n m) hb) (Nat.le_refl k) hm
theorem XC.loop {x : ACode} {fr : List AV} {st : St} {out : Out} (h : LX tbl x fr st out) : XC tbl (.loop x) fr st out := by
 obtain ⟨n, k, h⟩ := h
 refine ⟨max n k, ?_⟩
 simp only [exec]
 exact iter_le (fun _ _ _ hb => exec_le (callF_le (Nat.le_max_left n k)) (Nat.le_max_left n k) hb) (Nat.le_max_right n k) h
theorem XC.seq {a b : ACode} {fr fr1 : List AV} {st st1 : St} {out : Out} (h : XC tbl a fr st (.normal, fr1, st1)) (h' : XC tbl b fr1 st1 out) : XC tbl (.seq a b) fr st out := by
 obtain ⟨n, hn⟩ := h
 obtain ⟨m, hm⟩ := h'
 refine ⟨max n m, ?_⟩
 rw [exec_seqK, exec_le (callF_le (Nat.le_max_left n m)) (Nat.le_max_left n m) hn, seqK_normal]
 exact exec_le (callF_le (Nat.le_max_right n m)) (Nat.le_max_right n m) hm
theorem XC.blk {id : Nat} {a : ACode} {fr fr1 : List AV} {st st1 : St} {e : Ex} (h : XC tbl a fr st (e, fr1, st1)) : XC tbl (.blk id a) fr st (if e = .exit id then .normal else e, fr1, st1) := by
 obtain ⟨n, hn⟩ := h
 refine ⟨n, ?_⟩
 simp only [exec, hn]
 cases e with
 | normal => rfl
 | exit id' =>
  by_cases hid : id' = id
  · subst hid; simp
  · simp [hid]
 | ret => rfl
theorem XC.skip {fr : List AV} {st : St} : XC tbl .skip fr st (.normal, fr, st) := ⟨0, rfl⟩
theorem XC.exit {id : Nat} {fr : List AV} {st : St} : XC tbl (.exit id) fr st (.exit id, fr, st) := ⟨0, rfl⟩
theorem XC.ret {fr : List AV} {st : St} : XC tbl .ret fr st (.ret, fr, st) := ⟨0, rfl⟩

theorem XC.of {x : ACode} {fr : List AV} {st : St} {out : Out} (h : ∃ n0, ∀ n, n0 ≤ n → exec (callF tbl n) n x fr st = some out) : XC tbl x fr st out :=
 let ⟨n, hn⟩ := h; ⟨n, hn n (Nat.le_refl n)⟩
theorem XC.goes {x a : ACode} {fr fr1 : List AV} {st st1 : St} {out : Out} (h : ∃ n0, ∀ n, n0 ≤ n → exec (callF tbl n) n x fr st = exec (callF tbl n) n a fr1 st1) (h' : XC tbl a fr1 st1 out) : XC tbl x fr st out := by
 obtain ⟨n, hn⟩ := h
 obtain ⟨m, hm⟩ := h'.ge
 exact ⟨max n m, by rw [hn _ (Nat.le_max_left n m)]; exact hm _ (Nat.le_max_right n m)⟩

theorem Ev.of_body {f : Nat} {fn : AFn} {as : List AV} {st : St} {e : Ex} {fr' : List AV} {st' : St} {r : AV × St} (htb : tbl f = some fn) (he : fn.ext = none) (hl : as.length = fn.np)
 (h : XC tbl fn.code (as ++ List.replicate (fn.nv - fn.np) .undef) st (e, fr', st')) (hr : finK fn.results (some (e, fr', st')) = some r) : Ev tbl f as st r.1 r.2 := by
 obtain ⟨n, hn⟩ := h
 refine ⟨n + 1, ?_⟩
 simp only [callF, htb, he]
 rw [run_finK _ _ _ _ _ hl, hn, hr]
theorem Ev.of_ext {f : Nat} {fn : AFn} {as : List AV} {st : St} {e : List AV → St → Option (AV × St)} {r : AV × St} (htb : tbl f = some fn) (he : fn.ext = some e) (h : e as st = some r) : Ev tbl f as st r.1 r.2 :=
 ⟨1, by simp only [callF, htb, he]; exact h⟩
end
end Go.Cb
/-
 THE ABSTRACT MACHINE, part 33: with enough fuel it comes to something of that sort.
-/
set_option maxRecDepth 4000
set_option linter.unusedVariables false
namespace Go.Cb
open Classical

def WC {α : Type} (c : Nat → Option α) (Q : α → Prop) : Prop := ∃ n0 a, (∀ n, n0 ≤ n → c n = some a) ∧ Q a
def EvQ (tbl : Nat → Option AFn) (f : Nat) (as : List AV) (st : St) (Q : AV → St → Prop) : Prop := ∃ r st', Ev tbl f as st r st' ∧ Q r st'

theorem WC.ret {α : Type} {a : α} {Q : α → Prop} (h : Q a) : WC (fun _ => some a) Q := ⟨0, a, fun _ _ => rfl, h⟩
theorem WC.mono {α : Type} {c : Nat → Option α} {P Q : α → Prop} (h : WC c P) (hq : ∀ a, P a → Q a) : WC c Q :=
 let ⟨n, a, ha, hp⟩ := h; ⟨n, a, ha, hq a hp⟩
theorem WC.obind {α β : Type} {c : Nat → Option α} {k : Nat → α → Option β} {P : α → Prop} {Q : β → Prop} (h : WC c P) (hk : ∀ a, P a → WC (fun n => k n a) Q) : WC (fun n => Go.Cb.obind (c n) (k n)) Q := by
 obtain ⟨n, a, ha, hp⟩ := h
 obtain ⟨m, b, hb, hq⟩ := hk a hp
 refine ⟨max n m, b, fun j hj => ?_, hq⟩
 show Go.Cb.obind (c j) (k j) = some b
 rw [ha j (by omega), obind_some]
 exact hb j (Nat.le_trans (Nat.le_max_right n m) hj)
theorem EvQ.mono {tbl : Nat → Option AFn} {f : Nat} {as : List AV} {st : St} {P Q : AV → St → Prop} (h : EvQ tbl f as st P) (hq : ∀ r st', P r st' → Q r st') : EvQ tbl f as st Q :=
 let ⟨r, st', he, hp⟩ := h; ⟨r, st', he, hq r st' hp⟩

section
variable {tbl : Nat → Option AFn}
theorem WC.call {β : Type} {f : Nat} {as as' : List AV} {bx : AV} {st : St} {k : Nat → AV × St → Option β} {P : AV → St → Prop} {Q : β → Prop}
 (h : EvQ tbl f as' st P) (hp : allPlain as = true) (hw : as.map AV.weak = as') (hk : ∀ r st', P r st' → WC (fun n => k n (r, st')) Q) : WC (fun n => Go.Cb.obind (p2 (semCall f (callF tbl n) as bx st)) (k n)) Q := by
 obtain ⟨r, st', he, hq⟩ := h
 obtain ⟨n0, h0⟩ := he.ge
 refine WC.obind (P := fun x => x = (r, st')) ⟨n0, (r, st'), fun n hn => ?_, rfl⟩ (fun a ha => ha ▸ hk r st' hq)
 simp only [semCall, hp, if_true, hw, h0 n hn, Option.map_some, p2_some]
theorem WC.callV {β : Type} {f : Nat} {first caps as as' : List AV} {bx : AV} {st : St} {k : Nat → AV × St → Option β} {P : AV → St → Prop} {Q : β → Prop}
 (h : EvQ tbl f as' st P) (hp : allPlain as = true) (hw : (first ++ as ++ caps).map AV.weak = as') (hk : ∀ r st', P r st' → WC (fun n => k n (r, st')) Q) : WC (fun n => Go.Cb.obind (p2 (semCallV (callF tbl n) (.func f first caps :: as) bx st)) (k n)) Q := by
 obtain ⟨r, st', he, hq⟩ := h
 obtain ⟨n0, h0⟩ := he.ge
 refine WC.obind (P := fun x => x = (r, st')) ⟨n0, (r, st'), fun n hn => ?_, rfl⟩ (fun a ha => ha ▸ hk r st' hq)
 simp only [semCallV, hp, if_true, hw, h0 n hn, Option.map_some, p2_some]

def blkOut (id : Nat) (o : Out) : Out := match o with
 | (.exit id', fr, st) => if id' = id then (.normal, fr, st) else (.exit id', fr, st)
 | o => o
def blkK (id : Nat) (x : Option Out) : Option Out := match x with
 | some o => some (blkOut id o)
 | none => none
theorem blkK_some (id : Nat) (o : Out) : blkK id (some o) = some (blkOut id o) := spine rfl
theorem blkOut_normal (id : Nat) (fr : List AV) (st : St) : blkOut id (.normal, fr, st) = (.normal, fr, st) := spine rfl
theorem blkOut_ret (id : Nat) (fr : List AV) (st : St) : blkOut id (.ret, fr, st) = (.ret, fr, st) := spine rfl
theorem blkOut_exit (id id' : Nat) (fr : List AV) (st : St) : blkOut id (.exit id', fr, st) = if id' = id then (.normal, fr, st) else (.exit id', fr, st) := spine rfl
theorem blkK_congr {id : Nat} {x x' : Option Out} (h : x = x') : blkK id x = blkK id x' := by rw [h]
theorem exec_blkK (call : CallT) (n id : Nat) (a : ACode) (fr : List AV) (st : St) : exec call n (.blk id a) fr st = blkK id (exec call n a fr st) := by
 simp only [exec, blkK]
 cases exec call n a fr st with
 | none => rfl
 | some o =>
  obtain ⟨e, fr', st'⟩ := o
  cases e with
  | normal => rfl
  | ret => rfl
  | exit id' => by_cases h : id' = id <;> simp [blkOut, h]
theorem WC.seqK {c : Nat → Option Out} {g : Nat → List AV → St → Option Out} {P Q : Out → Prop} (h : WC c P) (hk : ∀ o, P o → WC (fun n => Go.Cb.seqK (some o) (g n)) Q) : WC (fun n => Go.Cb.seqK (c n) (g n)) Q := by
 obtain ⟨n, a, ha, hp⟩ := h
 obtain ⟨m, b, hb, hq⟩ := hk a hp
 exact ⟨max n m, b, fun j hj => by dsimp only; rw [ha j (by omega)]; exact hb j (by omega), hq⟩
theorem WC.blkK {id : Nat} {c : Nat → Option Out} {Q : Out → Prop} (h : WC c (fun o => Q (blkOut id o))) : WC (fun n => Go.Cb.blkK id (c n)) Q := by
 obtain ⟨n, a, ha, hp⟩ := h
 exact ⟨n, _, fun j hj => by dsimp only; rw [ha j hj, blkK_some], hp⟩
theorem WC.finK {rs : List ResK} {c : Nat → Option Out} {P : Out → Prop} {Q : AV × St → Prop} (h : WC c P) (hk : ∀ o, P o → WC (fun n => Go.Cb.finK rs (some o)) Q) : WC (fun n => Go.Cb.finK rs (c n)) Q := by
 obtain ⟨n, a, ha, hp⟩ := h
 obtain ⟨m, b, hb, hq⟩ := hk a hp
 exact ⟨max n m, b, fun j hj => by dsimp only; rw [ha j (by omega)]; exact hb j (by omega), hq⟩

theorem WC.of_xc {x : ACode} {fr : List AV} {st : St} {out : Out} {Q : Out → Prop} (h : XC tbl x fr st out) (hq : Q out) : WC (fun n => exec (callF tbl n) n x fr st) Q := by
 obtain ⟨n, hn⟩ := h.ge
 exact ⟨n, out, hn, hq⟩
theorem WC.xc {x : ACode} {fr : List AV} {st : St} {Q : Out → Prop} (h : WC (fun n => exec (callF tbl n) n x fr st) Q) : ∃ out, XC tbl x fr st out ∧ Q out := by
 obtain ⟨n, a, ha, hq⟩ := h
 exact ⟨a, ⟨n, ha n (Nat.le_refl n)⟩, hq⟩

theorem WC.loop {x : ACode} {Q : Out → Prop} (I : Nat → List AV → St → Prop) {m : Nat} {fr : List AV} {st : St} (h0 : I m fr st)
 (hI : ∀ m fr st, I m fr st → WC (fun n => exec (callF tbl n) n x fr st) (fun o => (∃ m' fr' st', o = (.normal, fr', st') ∧ m' < m ∧ I m' fr' st') ∨ (o.1 ≠ .normal ∧ Q o))) :
 WC (fun n => exec (callF tbl n) n (.loop x) fr st) Q := by
 have key : ∀ m fr st, I m fr st → ∃ out, LX tbl x fr st out ∧ Q out := by
  intro m
  induction m using Nat.strongRecOn with
  | ind m ih =>
   intro fr st h
   obtain ⟨out, hx, hc⟩ := (hI m fr st h).xc
   rcases hc with ⟨m', fr', st', rfl, hlt, hi⟩ | ⟨hne, hq⟩
   · obtain ⟨out, hl, hq⟩ := ih m' hlt fr' st' hi
     exact ⟨out, LX.step hx hl, hq⟩
   · obtain ⟨e, fr', st'⟩ := out
     exact ⟨_, LX.done hx hne, hq⟩
 obtain ⟨out, hl, hq⟩ := key m fr st h0
 exact WC.of_xc (XC.loop hl) hq

theorem EvQ.of_body {f : Nat} {fn : AFn} {as : List AV} {st : St} {Q : AV → St → Prop} (htb : tbl f = some fn) (he : fn.ext = none) (hl : as.length = fn.np)
 (h : WC (fun n => Go.Cb.finK fn.results (exec (callF tbl n) n fn.code (as ++ List.replicate (fn.nv - fn.np) .undef) st)) (fun r => Q r.1 r.2)) : EvQ tbl f as st Q := by
 obtain ⟨n, a, ha, hq⟩ := h
 refine ⟨a.1, a.2, ⟨n + 1, ?_⟩, hq⟩
 simp only [callF, htb, he]
 rw [run_finK _ _ _ _ _ hl]
 exact ha n (Nat.le_refl n)
theorem EvQ.of_ext {f : Nat} {fn : AFn} {as : List AV} {st : St} {e : List AV → St → Option (AV × St)} {r : AV × St} {Q : AV → St → Prop} (htb : tbl f = some fn) (he : fn.ext = some e) (h : e as st = some r) (hq : Q r.1 r.2) : EvQ tbl f as st Q :=
 ⟨_, _, Ev.of_ext htb he h, hq⟩
theorem EvQ.of_ev {f : Nat} {as : List AV} {st : St} {r : AV} {st' : St} {Q : AV → St → Prop} (h : Ev tbl f as st r st') (hq : Q r st') : EvQ tbl f as st Q := ⟨r, st', h, hq⟩
end
end Go.Cb
/-
 THE ABSTRACT MACHINE, part 34: rules for loops within blocks, and for a body's end.
-/
set_option maxRecDepth 4000
set_option linter.unusedVariables false
namespace Go.Cb
open Classical
section
variable {tbl : Nat → Option AFn}

theorem WC.next {I : Nat → List AV → St → Prop} {m m' : Nat} {fr' : List AV} {st' : St} {R : Out → Prop} (hm : m' < m) (hi : I m' fr' st') :
 WC (fun _ => some (Ex.normal, fr', st')) (fun o => (∃ m' fr' st', o = (.normal, fr', st') ∧ m' < m ∧ I m' fr' st') ∨ (o.1 ≠ .normal ∧ R o)) := WC.ret (Or.inl ⟨m', fr', st', rfl, hm, hi⟩)
theorem WC.leave {I : Nat → List AV → St → Prop} {m id : Nat} {fr' : List AV} {st' : St} {R : Out → Prop} (h : R (.exit id, fr', st')) :
 WC (fun _ => some (Ex.exit id, fr', st')) (fun o => (∃ m' fr' st', o = (.normal, fr', st') ∧ m' < m ∧ I m' fr' st') ∨ (o.1 ≠ .normal ∧ R o)) := WC.ret (Or.inr ⟨fun h => by simp at h, h⟩)
theorem WC.leaveR {I : Nat → List AV → St → Prop} {m : Nat} {fr' : List AV} {st' : St} {R : Out → Prop} (h : R (.ret, fr', st')) :
 WC (fun _ => some (Ex.ret, fr', st')) (fun o => (∃ m' fr' st', o = (.normal, fr', st') ∧ m' < m ∧ I m' fr' st') ∨ (o.1 ≠ .normal ∧ R o)) := WC.ret (Or.inr ⟨fun h => by simp at h, h⟩)

theorem EvQ.body {f : Nat} {fn : AFn} {as : List AV} {st : St} {Q : AV → St → Prop} (htb : tbl f = some fn) (he : fn.ext = none) (hl : as.length = fn.np)
 (h : WC (fun n => exec (callF tbl n) n fn.code (as ++ List.replicate (fn.nv - fn.np) .undef) st) (fun o => ∃ r st', Go.Cb.finK fn.results (some o) = some (r, st') ∧ Q r st')) : EvQ tbl f as st Q :=
 EvQ.of_body htb he hl (WC.finK h fun o ⟨r, st', hr, hq⟩ => ⟨0, (r, st'), fun _ _ => hr, hq⟩)
end
end Go.Cb
/-
 THE ABSTRACT MACHINE, part 35: small laws on numbers and rows, for walks with unknowns.
-/
set_option maxRecDepth 4000
set_option linter.unusedVariables false
namespace Go.Cb
open Classical

theorem wrap64 {n : Int} (h1 : -9223372036854775808 ≤ n) (h2 : n < 9223372036854775808) : wrapA .i64 n = n := by
 rw [wrapA_eq]
 simp only [IntKind.wrap, IntKind.signed, IntKind.bits, Bool.true_and]
 split
 · rename_i h; have h := of_decide_eq_true h; omega
 · rename_i h; have h : ¬ (n % 2 ^ 64 ≥ 2 ^ (64 - 1)) := fun x => h (decide_eq_true x); omega
theorem wrap8 {n : Int} (h1 : 0 ≤ n) (h2 : n < 256) : wrapA .u8 n = n := by
 rw [wrapA_eq]
 simp only [IntKind.wrap, IntKind.signed, IntKind.bits, Bool.false_and, Bool.false_eq_true, if_false]
 omega
theorem inc64 {i : Nat} (h : i + 1 < 2 ^ 63) : wrapA .i64 (addI (i : Int) 1) = ((i + 1 : Nat) : Int) := by
 rw [addI_eq, wrap64 (by omega) (by omega)]
 omega
theorem ltN (i j : Nat) : ltI (i : Int) (j : Int) = decide (i < j) := by
 rw [ltI_eq]
 by_cases h : i < j
 · simp [h]
 · simp [h]
theorem eqNN (i j : Nat) : eqI (i : Int) (j : Int) = decide (i = j) := by
 rw [eqI_eq]
 by_cases h : i = j
 · simp [h]
 · simp [h]; omega
theorem bool_tf (b : Bool) : b = true ∨ b = false := by cases b <;> simp
theorem rowsOk_all {sz : Nat} {xs : List (List AV)} (h : ∀ r ∈ xs, r.length = sz) : rowsOk sz xs = true := by
 cases xs with
 | nil => rfl
 | cons r rs => simp [rowsOk, h r (by simp)]
end Go.Cb
/-
 THE ABSTRACT MACHINE, part 36: guarded values, reckoned without splitting; copies, form by form; tests as rules.
-/
set_option maxRecDepth 4000
set_option linter.unusedVariables false
namespace Go.Cb
open Classical

def gV (x : AV) (want : Bool) (v : AV) : AV := match x with
 | .bool b => if b == want then v else .tuple []
 | _ => .tuple []
theorem gV_tt (v : AV) : gV (.bool true) true v = v := spine rfl
theorem gV_ff (v : AV) : gV (.bool false) false v = v := spine rfl
theorem gV_tf (v : AV) : gV (.bool true) false v = .tuple [] := spine rfl
theorem gV_ft (v : AV) : gV (.bool false) true v = .tuple [] := spine rfl
theorem gV_none (want : Bool) (v : AV) : gV (.tuple []) want v = .tuple [] := spine rfl
theorem gv_some (c want : Bool) (v : AV) : gv (.bool c) want (some v) = some (gV (.bool c) want v) := by
 cases c <;> cases want <;> rfl
theorem gv_some2 (x : AV) (w b want : Bool) (v : AV) : gv (gV x w (.bool b)) want (some v) = some (gV (gV x w (.bool b)) want v) := by
 unfold gV
 cases x with
 | bool c => cases c <;> cases w <;> cases b <;> cases want <;> rfl
 | _ => rfl
theorem gv_congr2 {x x' : AV} {want : Bool} {e e' : Option AV} (h1 : x = x') (h2 : x' = .bool want → e = e') : gv x want e = gv x' want e' := by
 subst h1
 unfold gv
 split
 · rename_i b
   by_cases hb : b = want
   · rw [h2 (by rw [hb])]
   · simp [hb]
 · rfl
 · rfl
theorem weak_gV (x : AV) (w : Bool) (v : AV) : (gV x w v).weak = gV x w v.weak := by
 unfold gV
 cases x with
 | bool c => dsimp only; split <;> rfl
 | _ => rfl
theorem strip_gV (x : AV) (w : Bool) (v : AV) : (gV x w v).strip = gV x w v.strip := by
 unfold gV
 cases x with
 | bool c => dsimp only; split <;> rfl
 | _ => rfl
theorem stripB_gV (x : AV) (w : Bool) (v : AV) : (gV x w v).stripB = gV x w v.stripB := by
 unfold gV
 cases x with
 | bool c => dsimp only; split <;> rfl
 | _ => rfl
theorem pick_t (call : CallT) (a b bx : AV) (st : St) : p1 (semPick call [.bool true, a, b] bx st) = if a.plain then some a else none := by
 unfold semPick; dsimp only; by_cases h : a.plain = true <;> simp [h, p1]
theorem pick_f (call : CallT) (a b bx : AV) (st : St) : p1 (semPick call [.bool false, a, b] bx st) = if b.plain then some b else none := by
 unfold semPick; dsimp only; by_cases h : b.plain = true <;> simp [h, p1]
theorem pick_or (call : CallT) (c d : Bool) (bx : AV) (st : St) : p1 (semPick call [.bool c, .bool true, gV (.bool c) false (.bool d)] bx st) = some (.bool (c || d)) := by
 cases c <;> rfl
theorem pick_and (call : CallT) (c d : Bool) (bx : AV) (st : St) : p1 (semPick call [.bool c, gV (.bool c) true (.bool d), .bool false] bx st) = some (.bool (c && d)) := by
 cases c <;> rfl

theorem weak_bool (b : Bool) : (AV.bool b).weak = .bool b := spine rfl
theorem weak_int (k : IntKind) (n : Int) : (AV.int k n).weak = .int k n := spine rfl
theorem weak_str (s : List Nat) : (AV.str s).weak = .str s := spine rfl
theorem weak_list (o : Bool) (xs : List (List AV)) : (AV.list o xs).weak = .list false xs := spine rfl
theorem weak_ptr (o f : Nat) : (AV.ptr o f).weak = .ptr o f := spine rfl
theorem weak_nilp : AV.nilp.weak = .nilp := spine rfl
theorem weak_ro (cs : List AV) : (AV.ro cs).weak = .ro cs := spine rfl
theorem weak_loc (i f : Nat) : (AV.loc i f).weak = .loc i f := spine rfl
theorem weak_map (o : Nat) : (AV.map o).weak = .map o := spine rfl
theorem weak_nilm : AV.nilm.weak = .nilm := spine rfl
theorem weak_func (f : Nat) (a b : List AV) : (AV.func f a b).weak = .func f a b := spine rfl
theorem weak_nilf : AV.nilf.weak = .nilf := spine rfl
theorem weak_agg (cs : List AV) : (AV.agg cs).weak = .agg (cs.map AV.weak1) := spine rfl
theorem weak_sl (o f n s : Nat) : (AV.sl o f n s).weak = .sl o f n s := spine rfl
theorem weak_iface (t : Nat) (v : AV) : (AV.iface t v).weak = .iface t v := spine rfl
theorem weak_nili : AV.nili.weak = .nili := spine rfl
theorem weak_tuple (vs : List AV) : (AV.tuple vs).weak = .tuple vs := spine rfl
theorem weak_undef : AV.undef.weak = .undef := spine rfl
theorem weak_box (cs : List AV) : (AV.box cs).weak = .box cs := spine rfl
theorem weak1_bool (b : Bool) : (AV.bool b).weak1 = .bool b := spine rfl
theorem weak1_int (k : IntKind) (n : Int) : (AV.int k n).weak1 = .int k n := spine rfl
theorem weak1_str (s : List Nat) : (AV.str s).weak1 = .str s := spine rfl
theorem weak1_list (o : Bool) (xs : List (List AV)) : (AV.list o xs).weak1 = .list false xs := spine rfl
theorem weak1_sl (o f n s : Nat) : (AV.sl o f n s).weak1 = .sl o f n s := spine rfl
theorem weak1_func (f : Nat) (a b : List AV) : (AV.func f a b).weak1 = .func f a b := spine rfl
theorem weak1_ptr (o f : Nat) : (AV.ptr o f).weak1 = .ptr o f := spine rfl
theorem weak1_nilp : AV.nilp.weak1 = .nilp := spine rfl
theorem weak1_map (o : Nat) : (AV.map o).weak1 = .map o := spine rfl
theorem weak1_nilm : AV.nilm.weak1 = .nilm := spine rfl
theorem strip_bool (b : Bool) : (AV.bool b).strip = .bool b := spine rfl
theorem strip_int (k : IntKind) (n : Int) : (AV.int k n).strip = .int k n := spine rfl
theorem strip_str (s : List Nat) : (AV.str s).strip = .str s := spine rfl
theorem strip_list (o : Bool) (xs : List (List AV)) : (AV.list o xs).strip = .list o xs := spine rfl
theorem strip_ptr (o f : Nat) : (AV.ptr o f).strip = .ptr o f := spine rfl
theorem strip_nilp : AV.nilp.strip = .nilp := spine rfl
theorem strip_ro (cs : List AV) : (AV.ro cs).strip = .ro cs := spine rfl
theorem strip_loc (i f : Nat) : (AV.loc i f).strip = .undef := spine rfl
theorem strip_map (o : Nat) : (AV.map o).strip = .map o := spine rfl
theorem strip_nilm : AV.nilm.strip = .nilm := spine rfl
theorem strip_func (f : Nat) (a b : List AV) : (AV.func f a b).strip = .func f a b := spine rfl
theorem strip_nilf : AV.nilf.strip = .nilf := spine rfl
theorem strip_agg (cs : List AV) : (AV.agg cs).strip = .agg cs := spine rfl
theorem strip_sl (o f n s : Nat) : (AV.sl o f n s).strip = .sl o f n s := spine rfl
theorem strip_tuple (vs : List AV) : (AV.tuple vs).strip = .tuple vs := spine rfl
theorem strip_undef : AV.undef.strip = .undef := spine rfl
theorem stripB_bool (b : Bool) : (AV.bool b).stripB = .bool b := spine rfl
theorem stripB_int (k : IntKind) (n : Int) : (AV.int k n).stripB = .int k n := spine rfl
theorem stripB_str (s : List Nat) : (AV.str s).stripB = .str s := spine rfl
theorem stripB_list (o : Bool) (xs : List (List AV)) : (AV.list o xs).stripB = .list o xs := spine rfl
theorem stripB_ptr (o f : Nat) : (AV.ptr o f).stripB = .ptr o f := spine rfl
theorem stripB_nilp : AV.nilp.stripB = .nilp := spine rfl
theorem stripB_ro (cs : List AV) : (AV.ro cs).stripB = .ro cs := spine rfl
theorem stripB_loc (i f : Nat) : (AV.loc i f).stripB = .loc i f := spine rfl
theorem stripB_map (o : Nat) : (AV.map o).stripB = .map o := spine rfl
theorem stripB_nilm : AV.nilm.stripB = .nilm := spine rfl
theorem stripB_func (f : Nat) (a b : List AV) : (AV.func f a b).stripB = .func f a b := spine rfl
theorem stripB_nilf : AV.nilf.stripB = .nilf := spine rfl
theorem stripB_agg (cs : List AV) : (AV.agg cs).stripB = .agg cs := spine rfl
theorem weak_fresh (xs : List (List AV)) : (AV.fresh xs).weak = .fresh xs := spine rfl
theorem strip_fresh (xs : List (List AV)) : (AV.fresh xs).strip = .fresh xs := spine rfl
theorem stripB_fresh (xs : List (List AV)) : (AV.fresh xs).stripB = .fresh xs := spine rfl
theorem stripB_sl (o f n s : Nat) : (AV.sl o f n s).stripB = .sl o f n s := spine rfl
theorem stripB_tuple (vs : List AV) : (AV.tuple vs).stripB = .tuple vs := spine rfl
theorem stripB_undef : AV.undef.stripB = .undef := spine rfl

/-! what comes behind, as constants that wait: nothing of it is reckoned ahead of its time -/
def seqC {α : Type} (K : α → Option Out) (g : List AV → St → Option Out) (a : α) : Option Out := Go.Cb.seqK (K a) g
def blkC {α : Type} (id : Nat) (K : α → Option Out) (a : α) : Option Out := Go.Cb.blkK id (K a)
theorem seqC_x {α : Type} (K : α → Option Out) (g : List AV → St → Option Out) (a : α) : seqC K g a = Go.Cb.seqK (K a) g := spine rfl
theorem blkC_x {α : Type} (id : Nat) (K : α → Option Out) (a : α) : blkC id K a = Go.Cb.blkK id (K a) := spine rfl
theorem seqK_obindC {α : Type} (x : Option α) (f : α → Option Out) (g : List AV → St → Option Out) : Go.Cb.seqK (Go.Cb.obind x f) g = Go.Cb.obind x (seqC f g) := by cases x <;> rfl
theorem blkK_obindC {α : Type} (id : Nat) (x : Option α) (f : α → Option Out) : Go.Cb.blkK id (Go.Cb.obind x f) = Go.Cb.obind x (blkC id f) := by cases x <;> rfl

def exeT (call : CallT) (n : Nat) (a : ACode) (fr : List AV) (st : St) (_ : Unit) : Option Out := exec call n a fr st
def seqT (A : Unit → Option Out) (g : List AV → St → Option Out) (u : Unit) : Option Out := Go.Cb.seqK (A u) g
def blkT (id : Nat) (A : Unit → Option Out) (u : Unit) : Option Out := Go.Cb.blkK id (A u)
theorem exeT_x (call : CallT) (n : Nat) (a : ACode) (fr : List AV) (st : St) (u : Unit) : exeT call n a fr st u = exec call n a fr st := spine rfl
theorem seqT_x (A : Unit → Option Out) (g : List AV → St → Option Out) (u : Unit) : seqT A g u = Go.Cb.seqK (A u) g := spine rfl
theorem blkT_x (id : Nat) (A : Unit → Option Out) (u : Unit) : blkT id A u = Go.Cb.blkK id (A u) := spine rfl
def brT (c : AV) (A B : Unit → Option Out) : Option Out := match c with
 | .bool true => A ()
 | .bool false => B ()
 | _ => none
theorem brT_true (A B : Unit → Option Out) : brT (.bool true) A B = A () := spine rfl
theorem brT_false (A B : Unit → Option Out) : brT (.bool false) A B = B () := spine rfl
theorem brT_congr {c c' : AV} {A B : Unit → Option Out} (h : c = c') : brT c A B = brT c' A B := by rw [h]
theorem seqK_brT (c : AV) (A B : Unit → Option Out) (g : List AV → St → Option Out) : Go.Cb.seqK (brT c A B) g = brT c (seqT A g) (seqT B g) := by
 cases c <;> try rfl
 rename_i b; cases b <;> rfl
theorem blkK_brT (id : Nat) (c : AV) (A B : Unit → Option Out) : Go.Cb.blkK id (brT c A B) = brT c (blkT id A) (blkT id B) := by
 cases c <;> try rfl
 rename_i b; cases b <;> rfl
theorem br_brT (call : CallT) (n : Nat) (c : AV) (a b : ACode) (fr : List AV) (st : St) : Go.Cb.br c (exec call n a fr st) (exec call n b fr st) = brT c (exeT call n a fr st) (exeT call n b fr st) := by
 cases c <;> try rfl
theorem exec_testT (call : CallT) (n : Nat) (kill : List Nat) (ps : List AOper) (c : Opd) (a b : ACode) (fr : List AV) (st : St) :
 exec call n (.test kill ps c a b) fr st = runK call ps ⟨killAll kill fr, fun _ => .undef, st⟩ fun σ => brT (c.read σ) (exeT call n a σ.fr σ.st) (exeT call n b σ.fr σ.st) := by
 rw [exec_test]
 simp only [br_brT]
def loopO (call : CallT) (n : Nat) (x : ACode) (fr : List AV) (st : St) : Option Out := exec call n (.loop x) fr st
theorem exec_loopO (call : CallT) (n : Nat) (x : ACode) (fr : List AV) (st : St) : exec call n (.loop x) fr st = Go.Cb.obind (loopO call n x fr st) some := by
 unfold loopO; cases exec call n (.loop x) fr st <;> rfl

theorem WC.br {c : Bool} {A B : Nat → Unit → Option Out} {Q : Out → Prop} (ht : c = true → WC (fun n => A n ()) Q) (hf : c = false → WC (fun n => B n ()) Q) : WC (fun n => brT (.bool c) (A n) (B n)) Q := by
 cases c with
 | true => exact ht rfl
 | false => exact hf rfl
theorem WC.loopR {tbl : Nat → Option AFn} {β : Type} {x : ACode} {K : Nat → Out → Option β} {Q : β → Prop} (I : Nat → List AV → St → Prop) {m : Nat} {fr : List AV} {st : St} (h0 : I m fr st)
 (hI : ∀ m fr st, I m fr st → WC (fun n => exec (callF tbl n) n x fr st) (fun o => (∃ m' fr' st', o = (.normal, fr', st') ∧ m' < m ∧ I m' fr' st') ∨ (o.1 ≠ .normal ∧ WC (fun n => K n o) Q))) :
 WC (fun n => Go.Cb.obind (loopO (callF tbl n) n x fr st) (K n)) Q := WC.obind (WC.loop I h0 hI) fun _ ho => ho
theorem WC.g2 {β : Type} {c want : Bool} {st : St} {E : Nat → Option (AV × St)} {k : Nat → AV × St → Option β} {Q : β → Prop} (ht : c = want → WC (fun n => Go.Cb.obind (E n) (k n)) Q) (hf : c = !want → WC (fun n => k n (.tuple [], st)) Q) :
 WC (fun n => Go.Cb.obind (gv2 (.bool c) want st (E n)) (k n)) Q := by
 by_cases h : c = want
 · subst h
   have e : ∀ n, gv2 (.bool c) c st (E n) = E n := fun n => by cases c <;> rfl
   simp only [e]
   exact ht rfl
 · have h' : c = !want := by cases c <;> cases want <;> simp_all
   have e : ∀ n, gv2 (.bool c) want st (E n) = some (.tuple [], st) := fun n => by subst h'; cases want <;> rfl
   simp only [e, obind_some]
   exact hf h'
end Go.Cb
/-
 THE ABSTRACT MACHINE, part 37: what operations come to, form by form; all of it under one name.
-/
set_option maxRecDepth 4000
set_option linter.unusedVariables false
set_option linter.unusedSimpArgs false
namespace Go.Cb
def W (a : AV) : AV := AV.weak (AV.stripB a)
def brE (c : AV) (call : CallT) (n : Nat) (a b : ACode) (fr : List AV) (st : St) : Option Out := brT c (exeT call n a fr st) (exeT call n b fr st)
def m1 {β : Type} (a : AV) (f : AV → Option β) : Option β := obind (p1 (some (a, AV.undef, ([] : St)))) f
def gm {β : Type} (x : AV) (w : Bool) (a : AV) (f : AV → Option β) : Option β := obind (gv x w (some a)) f
theorem m1_congr {β : Type} {a a' : AV} {f : AV → Option β} (h : a = a') : m1 a f = m1 a' f := by rw [h]
theorem gm_congr {β : Type} {x x' a a' : AV} {w : Bool} {f : AV → Option β} (h1 : x = x') (h2 : x' = .bool w → a = a') : gm x w a f = gm x' w a' f := by
 unfold gm
 rw [gv_congr2 (e := some a) (e' := some a') h1 (fun h => by rw [h2 h])]
end Go.Cb
namespace Go.Cb.R
open Go.Cb
theorem mv_e (call : CallT) (bx : AV) (st : St) (a : AV) : semMv call [a] bx st = some (a, bx, st) := spine rfl
theorem nilchk_ptr (call : CallT) (bx : AV) (st : St) (o f : Nat) : semNilchk call [.ptr o f] bx st = some (.ptr o f, bx, st) := spine rfl
theorem nilchk_loc (call : CallT) (bx : AV) (st : St) (o f : Nat) : semNilchk call [.loc o f] bx st = some (.loc o f, bx, st) := spine rfl
theorem nilchk_ro (call : CallT) (bx : AV) (st : St) (cs : List AV) : semNilchk call [.ro cs] bx st = some (.ro cs, bx, st) := spine rfl
theorem nilchk_func (call : CallT) (bx : AV) (st : St) (f : Nat) (a b : List AV) : semNilchk call [.func f a b] bx st = some (.func f a b, bx, st) := spine rfl
theorem alloc_e (call : CallT) (st : St) (zero : List AV) : semAlloc zero call [] .undef st = some (.undef, .box zero, st) := spine rfl
theorem boxV_e (call : CallT) (st : St) (a : AV) : semBoxV call [a] .undef st = if a.plain then some (.undef, .box a.cellsW, st) else none := spine rfl
theorem allocO_e (call : CallT) (bx : AV) (st : St) (zero : List AV) : semAllocO zero call [] bx st = some (.ptr st.length 0, bx, st ++ [.cells zero]) := spine rfl
theorem boxO_e (call : CallT) (bx : AV) (st : St) (a : AV) : semBoxO call [a] bx st = if a.plain then some (.ptr st.length 0, bx, st ++ [.cells a.cellsW]) else none := spine rfl
theorem build_e (call : CallT) (bx : AV) (st : St) (zero : List AV) (offs : List (Nat × Nat)) (as : List AV) : semBuild zero offs call as bx st = (fillSegs offs as zero).map fun cs => (.agg cs, bx, st) := spine rfl
theorem bslice_e (call : CallT) (bx : AV) (st : St) (sz : Nat) (zero : List (List AV)) (at_ : List Nat) (as : List AV) : semBslice sz zero at_ call as bx st = (fillRows sz at_ as zero).map fun rs => (.list true rs, bx, st) := spine rfl
theorem ldLc_e (call : CallT) (st : St) (i off n : Nat) (agg : Bool) (cs : List AV) : semLdLc i agg n call [.loc i off] (.box cs) st = (takeVal agg n (cs.drop off)).map (fun v => (v, .box cs, st)) := by unfold semLdLc; simp only [if_true]
theorem ldSt_e (call : CallT) (bx : AV) (st : St) (o off n : Nat) (agg : Bool) : semLdSt agg n call [.ptr o off] bx st = match st[o]? with | some (.cells cs) => (takeVal agg n (cs.drop off)).map (fun v => (v, bx, st)) | _ => none := spine rfl
theorem ldRo_e (call : CallT) (bx : AV) (st : St) (n : Nat) (agg : Bool) (cs : List AV) : semLdRo agg n call [.ro cs] bx st = (takeVal agg n cs).map (fun v => (v, bx, st)) := spine rfl
theorem ldAn_ro (call : CallT) (bx : AV) (st : St) (n : Nat) (agg : Bool) (cs : List AV) : semLdAn agg n call [.ro cs] bx st = (takeVal agg n cs).map (fun v => (v, bx, st)) := spine rfl
theorem ldAn_ptr (call : CallT) (bx : AV) (st : St) (o off n : Nat) (agg : Bool) : semLdAn agg n call [.ptr o off] bx st = match st[o]? with | some (.cells cs) => (takeVal agg n (cs.drop off)).map (fun v => (v, bx, st)) | _ => none := spine rfl
theorem ldLcS_e (call : CallT) (st : St) (i off : Nat) (cs : List AV) : semLdLcS i call [.loc i off] (.box cs) st = match cs[off]? with | some c => some (c, .box (cs.set off c.weak1), st) | none => none := by unfold semLdLcS; simp only [if_true]; rfl
theorem ldStS_e (call : CallT) (bx : AV) (st : St) (o off : Nat) : semLdStS call [.ptr o off] bx st = match st[o]? with | some (.cells cs) => (match cs[off]? with | some c => some (c, bx, st.set o (.cells (cs.set off c.weak1))) | none => none) | _ => none := spine rfl
theorem stLc_e (call : CallT) (st : St) (i n off : Nat) (x : AV) (cs : List AV) : semStLc i n call [.loc i off, x] (.box cs) st = if x.plain = true ∧ x.cells.length = n ∧ off + n ≤ cs.length then some (.tuple [], .box (setSeg cs off x.cells), st) else none := by unfold semStLc; simp only [true_and]
theorem stSt_e (call : CallT) (bx : AV) (st : St) (o off n : Nat) (x : AV) : semStSt n call [.ptr o off, x] bx st = match st[o]? with | some (.cells cs) => (if x.plain = true ∧ x.cells.length = n ∧ off + n ≤ cs.length then some (.tuple [], bx, st.set o (.cells (setSeg cs off x.cells))) else none) | _ => none := by unfold semStSt; simp only [fL_eq]; rfl
theorem fad_ptr (call : CallT) (bx : AV) (st : St) (off o f : Nat) : semFad off call [.ptr o f] bx st = some (.ptr o (f + off), bx, st) := spine rfl
theorem fad_loc (call : CallT) (bx : AV) (st : St) (off o f : Nat) : semFad off call [.loc o f] bx st = some (.loc o (f + off), bx, st) := spine rfl
theorem fad_ro (call : CallT) (bx : AV) (st : St) (off : Nat) (cs : List AV) : semFad off call [.ro cs] bx st = some (.ro (cs.drop off), bx, st) := spine rfl
theorem fld_e (call : CallT) (bx : AV) (st : St) (off n : Nat) (agg : Bool) (cs : List AV) : semFld off n agg call [.agg cs] bx st = if off + n ≤ cs.length then (takeVal agg n (cs.drop off)).map (fun v => (v, bx, st)) else none := spine rfl
theorem iad_e (call : CallT) (bx : AV) (st : St) (sz : Nat) (w : Bool) (xs : List (List AV)) (k : IntKind) (i : Int) : semIad sz call [.list w xs, .int k i] bx st = if 0 ≤ i then (match xs[i.toNat]? with | some r => if r.length = sz then some (.ro r, bx, st) else none | none => none) else none := spine rfl
theorem iad_sl (call : CallT) (bx : AV) (st : St) (sz o f n s : Nat) (k : IntKind) (i : Int) : semIad sz call [.sl o f n s, .int k i] bx st = if 0 ≤ i ∧ i < (n : Int) ∧ s = sz then some (.ptr o (f + i.toNat * sz), bx, st) else none := spine rfl
theorem lenL_sl (call : CallT) (bx : AV) (st : St) (o f n s : Nat) : semLenL call [.sl o f n s] bx st = some (.int .i64 n, bx, st) := spine rfl
theorem bsliceM_e (call : CallT) (bx : AV) (st : St) (sz : Nat) (zero : List (List AV)) (at_ : List Nat) (as : List AV) : semBsliceM sz zero at_ call as bx st = (fillRowsM sz at_ as zero).map fun rs => (.fresh rs, bx, st) := spine rfl
theorem bsliceO_e (call : CallT) (bx : AV) (st : St) (sz : Nat) (zero : List (List AV)) (at_ : List Nat) (as : List AV) : semBsliceO sz zero at_ call as bx st = (fillRowsM sz at_ as zero).map fun rs => (.sl st.length 0 zero.length sz, bx, st ++ [.cells rs.flatten]) := spine rfl
theorem min2_e (call : CallT) (bx : AV) (st : St) (k k' : IntKind) (a b : Int) : semMin2 call [.int k a, .int k' b] bx st = if k = k' then some (.int k (minI a b), bx, st) else none := spine rfl
theorem eqIS_e (call : CallT) (bx : AV) (st : St) (neg : Bool) (k k' : IntKind) (a b : Int) (s t : List Nat) : semEqIS neg call [.agg [.int k a, .str s], .agg [.int k' b, .str t]] bx st = if k = k' then some (.bool (eqISB neg a b s t), bx, st) else none := spine rfl
theorem fillRowsM_n (sz : Nat) (rs : List (List AV)) : fillRowsM sz [] [] rs = some rs := spine rfl
theorem fillRowsM_c (sz i : Nat) (is : List Nat) (p : AV) (ps : List AV) (rs : List (List AV)) : fillRowsM sz (i :: is) (p :: ps) rs = if p.plain = true ∧ p.cells.length = sz ∧ i < rs.length then fillRowsM sz is ps (rs.set i (p.cells.map AV.cellW1)) else none := spine rfl
theorem appM_nil (call : CallT) (bx : AV) (st : St) (sz bytes : Nat) (ys : List (List AV)) (gs : List AV) : semAppM sz bytes call (.list true [] :: .fresh ys :: gs) bx st = if ys.isEmpty = false ∧ rowsOk sz ys = true ∧ ys.length * bytes ≤ 2 ^ 47 ∧ aside none st.length gs = true then some (.sl st.length 0 ys.length sz, bx, st ++ [.cells ys.flatten]) else none := spine rfl
theorem appM_sl (call : CallT) (bx : AV) (st : St) (sz bytes o n s : Nat) (ys : List (List AV)) (gs : List AV) : semAppM sz bytes call (.sl o 0 n s :: .fresh ys :: gs) bx st = match st[o]? with | some (.cells xs) => (if s = sz ∧ ys.isEmpty = false ∧ rowsOk sz ys = true ∧ xs.length = n * sz ∧ (n + ys.length) * bytes ≤ 2 ^ 47 ∧ aside (some o) st.length gs = true then some (.sl st.length 0 (n + ys.length) sz, bx, st.set o .dead ++ [.cells (xs ++ ys.flatten)]) else none) | _ => none := spine rfl
theorem aside_n (o : Option Nat) (n : Nat) : aside o n [] = true := spine rfl
theorem aside_p (o : Option Nat) (n p f : Nat) (gs : List AV) : aside o n (.ptr p f :: gs) = (Nat.blt p n && (match o with | some o => !Nat.beq p o | none => true) && aside o n gs) := spine rfl
theorem flat_n {α : Type} : ([] : List (List α)).flatten = [] := spine rfl
theorem flat_c {α : Type} (a : List α) (l : List (List α)) : (a :: l).flatten = a ++ l.flatten := spine rfl
theorem b2s_e (call : CallT) (bx : AV) (st : St) (w : Bool) (xs : List (List AV)) : semB2s call [.list w xs] bx st = (bytesOf xs).map fun s => (.str s, bx, st) := spine rfl
theorem bytesOf_n : bytesOf [] = some [] := spine rfl
theorem bytesOf_c (n : Int) (rs : List (List AV)) : bytesOf ([.int .u8 n] :: rs) = if 0 ≤ n ∧ n < 256 then (bytesOf rs).map (n.toNat :: ·) else none := spine rfl
theorem iadA_ro (call : CallT) (bx : AV) (st : St) (len sz : Nat) (cs : List AV) (k : IntKind) (i : Int) : semIadA len sz call [.ro cs, .int k i] bx st = if 0 ≤ i ∧ i < (len : Int) then some (.ro (cs.drop (i.toNat * sz)), bx, st) else none := spine rfl
theorem iadA_ptr (call : CallT) (bx : AV) (st : St) (len sz o f : Nat) (k : IntKind) (i : Int) : semIadA len sz call [.ptr o f, .int k i] bx st = if 0 ≤ i ∧ i < (len : Int) then some (.ptr o (f + i.toNat * sz), bx, st) else none := spine rfl
theorem iadA_loc (call : CallT) (bx : AV) (st : St) (len sz o f : Nat) (k : IntKind) (i : Int) : semIadA len sz call [.loc o f, .int k i] bx st = if 0 ≤ i ∧ i < (len : Int) then some (.loc o (f + i.toNat * sz), bx, st) else none := spine rfl
theorem idxS_e (call : CallT) (bx : AV) (st : St) (s : List Nat) (k : IntKind) (i : Int) : semIdxS call [.str s, .int k i] bx st = if 0 ≤ i then (match s[i.toNat]? with | some b => some (.int .u8 b, bx, st) | none => none) else none := spine rfl
theorem slS_e (call : CallT) (bx : AV) (st : St) (lo hi : Bool) (s : List Nat) (r : List AV) : semSlS lo hi call (.str s :: r) bx st = (bounds lo hi r s.length).map fun p => (.str ((s.take p.2).drop p.1), bx, st) := spine rfl
theorem slL_sl (call : CallT) (bx : AV) (st : St) (sz : Nat) (lo hi : Bool) (o f n s : Nat) (r : List AV) : semSlL sz lo hi call (.sl o f n s :: r) bx st = if s = sz then (slB lo hi r n).map fun p => (.sl o (f + p.1 * sz) (p.2 - p.1) s, bx, st) else none := spine rfl
theorem slL_e (call : CallT) (bx : AV) (st : St) (sz : Nat) (lo hi : Bool) (w : Bool) (xs : List (List AV)) (r : List AV) : semSlL sz lo hi call (.list w xs :: r) bx st = if rowsOk sz xs then (bounds lo hi r xs.length).map fun p => (.list false ((xs.take p.2).drop p.1), bx, st) else none := spine rfl
theorem slZ_e (call : CallT) (bx : AV) (st : St) (w : Bool) (xs : List (List AV)) : semSlZ call [.list w xs] bx st = some (.list true [], bx, st) := spine rfl
theorem slA_e (call : CallT) (bx : AV) (st : St) (len sz : Nat) (lo hi : Bool) (cs r : List AV) : semSlA len sz lo hi call (.ro cs :: r) bx st = if cs.length = len * sz then (bounds lo hi r len).map fun p => (.list false (((chunks sz len cs).take p.2).drop p.1), bx, st) else none := spine rfl
theorem bin_e (call : CallT) (bx : AV) (st : St) (op : BinOp) (a b : AV) : semBin op call [a, b] bx st = (binA op a b).map (fun v => (v, bx, st)) := spine rfl
theorem binB_e (call : CallT) (bx : AV) (st : St) (op : BinOp) (a b : AV) : semBinB op call [a, b] bx st = (binBA op a b).map (fun v => (v, bx, st)) := spine rfl
theorem binP_e (call : CallT) (bx : AV) (st : St) (op : BinOp) (a b : AV) : semBinP op call [a, b] bx st = (binPA op a b).map (fun v => (v, bx, st)) := spine rfl
theorem bi_add (k : IntKind) (a b : Int) : binA .add (.int k a) (.int k b) = some (.int k (wrapA k (addI a b))) := by simp only [binA, if_true]
theorem bi_sub (k : IntKind) (a b : Int) : binA .sub (.int k a) (.int k b) = some (.int k (wrapA k (subI a b))) := by simp only [binA, if_true]
theorem bi_mul (k : IntKind) (a b : Int) : binA .mul (.int k a) (.int k b) = some (.int k (wrapA k (a * b))) := by simp only [binA, if_true]
theorem bi_quo (k : IntKind) (a b : Int) : binA .quo (.int k a) (.int k b) = if b = 0 then none else some (.int k (k.wrap (a.tdiv b))) := by simp only [binA, if_true]
theorem bi_rem (k : IntKind) (a b : Int) : binA .rem (.int k a) (.int k b) = if b = 0 then none else some (.int k (a.tmod b)) := by simp only [binA, if_true]
theorem bi_eql (k : IntKind) (a b : Int) : binA .eql (.int k a) (.int k b) = some (.bool (eqI a b)) := by simp only [binA, if_true]
theorem bi_neq (k : IntKind) (a b : Int) : binA .neq (.int k a) (.int k b) = some (.bool !(eqI a b)) := by simp only [binA, if_true]
theorem bi_lss (k : IntKind) (a b : Int) : binA .lss (.int k a) (.int k b) = some (.bool (ltI a b)) := by simp only [binA, if_true]
theorem bi_leq (k : IntKind) (a b : Int) : binA .leq (.int k a) (.int k b) = some (.bool !(ltI b a)) := by simp only [binA, if_true]
theorem bi_gtr (k : IntKind) (a b : Int) : binA .gtr (.int k a) (.int k b) = some (.bool (ltI b a)) := by simp only [binA, if_true]
theorem bi_geq (k : IntKind) (a b : Int) : binA .geq (.int k a) (.int k b) = some (.bool !(ltI a b)) := by simp only [binA, if_true]
theorem bs_add (a b : List Nat) : binA .add (.str a) (.str b) = if a.length + b.length ≤ 2 ^ 62 then some (.str (a ++ b)) else none := spine rfl
theorem bs_eql (a b : List Nat) : binA .eql (.str a) (.str b) = some (.bool (eqN a b)) := spine rfl
theorem bs_neq (a b : List Nat) : binA .neq (.str a) (.str b) = some (.bool !(eqN a b)) := spine rfl
theorem bs_lss (a b : List Nat) : binA .lss (.str a) (.str b) = some (.bool (lessN a b)) := spine rfl
theorem bb_eql (a b : Bool) : binBA .eql (.bool a) (.bool b) = some (.bool (a == b)) := spine rfl
theorem bb_neq (a b : Bool) : binBA .neq (.bool a) (.bool b) = some (.bool !(a == b)) := spine rfl
theorem bp_eql1 (o f : Nat) : binPA .eql (.ptr o f) .nilp = some (.bool false) := spine rfl
theorem bp_eql2 (o f : Nat) : binPA .eql .nilp (.ptr o f) = some (.bool false) := spine rfl
theorem bp_eql3 : binPA .eql .nilp .nilp = some (.bool true) := spine rfl
theorem bp_neq1 (o f : Nat) : binPA .neq (.ptr o f) .nilp = some (.bool true) := spine rfl
theorem bp_neq2 (o f : Nat) : binPA .neq .nilp (.ptr o f) = some (.bool true) := spine rfl
theorem bp_neq3 : binPA .neq .nilp .nilp = some (.bool false) := spine rfl
theorem un_not (call : CallT) (bx : AV) (st : St) (b : Bool) : semUn .not call [.bool b] bx st = some (.bool !b, bx, st) := spine rfl
theorem un_neg (call : CallT) (bx : AV) (st : St) (k : IntKind) (n : Int) : semUn .neg call [.int k n] bx st = some (.int k (wrapA k (0 - n)), bx, st) := spine rfl
theorem conv_e (call : CallT) (bx : AV) (st : St) (k k' : IntKind) (n : Int) : semConv k call [.int k' n] bx st = some (.int k (wrapA k n), bx, st) := spine rfl
theorem mkF_e (call : CallT) (bx : AV) (st : St) (f n : Nat) (as : List AV) : semMkF f n call as bx st = if allPlain as then some (.func f ((as.map AV.weak).take n) ((as.map AV.weak).drop n), bx, st) else none := spine rfl
theorem mkM_e (call : CallT) (bx : AV) (st : St) : semMkM call [] bx st = some (.map st.length, bx, st ++ [.map []]) := spine rfl
theorem ext_e (call : CallT) (bx : AV) (st : St) (i : Nat) (vs : List AV) : semExt i call [.tuple vs] bx st = match vs[i]? with | some v => some (v.weak, bx, st) | none => none := spine rfl
theorem lenS_e (call : CallT) (bx : AV) (st : St) (s : List Nat) : semLenS call [.str s] bx st = some (.int .i64 s.length, bx, st) := spine rfl
theorem lenL_e (call : CallT) (bx : AV) (st : St) (w : Bool) (xs : List (List AV)) : semLenL call [.list w xs] bx st = some (.int .i64 xs.length, bx, st) := spine rfl
theorem app_e (call : CallT) (bx : AV) (st : St) (sz bytes : Nat) (w : Bool) (xs ys : List (List AV)) : semApp sz bytes call [.list true xs, .list w ys] bx st = if rowsOk sz xs && rowsOk sz ys && decide ((xs.length + ys.length) * bytes ≤ 2 ^ 47) then some (.list true (xs ++ ys), bx, st) else none := spine rfl
theorem takeVal_t (n : Nat) (cs : List AV) : takeVal true n cs = if n ≤ cs.length then some (.agg ((cs.take n).map AV.weak1)) else none := spine rfl
theorem takeVal_f (n : Nat) (c : AV) (cs : List AV) : takeVal false n (c :: cs) = some c.weak1 := spine rfl
theorem fillSegs_n (cs : List AV) : fillSegs [] [] cs = some cs := spine rfl
theorem fillSegs_c (off n : Nat) (offs : List (Nat × Nat)) (p : AV) (ps cs : List AV) : fillSegs ((off, n) :: offs) (p :: ps) cs = if p.plain = true ∧ p.cells.length = n ∧ off + n ≤ cs.length then fillSegs offs ps (setSeg cs off p.cells) else none := spine rfl
theorem fillRows_n (sz : Nat) (rs : List (List AV)) : fillRows sz [] [] rs = some rs := spine rfl
theorem fillRows_c (sz i : Nat) (is : List Nat) (p : AV) (ps : List AV) (rs : List (List AV)) : fillRows sz (i :: is) (p :: ps) rs = if p.plain = true ∧ p.cells.length = sz ∧ i < rs.length then fillRows sz is ps (rs.set i (p.cells.map AV.weak1)) else none := spine rfl
theorem setSeg_e (cs : List AV) (off : Nat) (new : List AV) : setSeg cs off new = cs.take off ++ new ++ cs.drop (off + new.length) := spine rfl
theorem bounds_ff (n : Nat) : bounds false false [] n = some (0, n) := spine rfl
theorem bounds_tf (l : AV) (n : Nat) : bounds true false [l] n = (bound l n).map fun l => (l, n) := spine rfl
theorem bounds_ft (h : AV) (n : Nat) : bounds false true [h] n = (bound h n).map fun h => (0, h) := spine rfl
theorem bounds_tt (l h : AV) (n : Nat) : bounds true true [l, h] n = match bound h n with | some h => (bound l h).map (fun l => (l, h)) | none => none := spine rfl
theorem bound_e (k : IntKind) (i : Int) (top : Nat) : bound (.int k i) top = if 0 ≤ i ∧ i ≤ (top : Int) then some i.toNat else none := spine rfl
theorem rowsOk_n (sz : Nat) : rowsOk sz [] = true := spine rfl
theorem rowsOk_c (sz : Nat) (r : List AV) (rs : List (List AV)) : rowsOk sz (r :: rs) = (r.length == sz) := spine rfl
theorem locOf_e (i : Nat) (cs : List AV) : locOf i (.box cs) = .loc i 0 := spine rfl
theorem plain_bool (b : Bool) : AV.plain (.bool b) = true := spine rfl
theorem cells_bool (b : Bool) : AV.cells (.bool b) = [.bool b] := spine rfl
theorem cellW1_bool (b : Bool) : AV.cellW1 (.bool b) = .bool b := spine rfl
theorem cellsW_bool (b : Bool) : AV.cellsW (.bool b) = [.bool b] := spine rfl
theorem plain_int (k : IntKind) (n : Int) : AV.plain (.int k n) = true := spine rfl
theorem cells_int (k : IntKind) (n : Int) : AV.cells (.int k n) = [.int k n] := spine rfl
theorem cellW1_int (k : IntKind) (n : Int) : AV.cellW1 (.int k n) = .int k n := spine rfl
theorem cellsW_int (k : IntKind) (n : Int) : AV.cellsW (.int k n) = [.int k n] := spine rfl
theorem plain_str (s : List Nat) : AV.plain (.str s) = true := spine rfl
theorem cells_str (s : List Nat) : AV.cells (.str s) = [.str s] := spine rfl
theorem cellW1_str (s : List Nat) : AV.cellW1 (.str s) = .str s := spine rfl
theorem cellsW_str (s : List Nat) : AV.cellsW (.str s) = [.str s] := spine rfl
theorem plain_list (w : Bool) (xs : List (List AV)) : AV.plain (.list w xs) = true := spine rfl
theorem cells_list (w : Bool) (xs : List (List AV)) : AV.cells (.list w xs) = [.list w xs] := spine rfl
theorem plain_ptr (o f : Nat) : AV.plain (.ptr o f) = true := spine rfl
theorem cells_ptr (o f : Nat) : AV.cells (.ptr o f) = [.ptr o f] := spine rfl
theorem cellW1_ptr (o f : Nat) : AV.cellW1 (.ptr o f) = .ptr o f := spine rfl
theorem cellsW_ptr (o f : Nat) : AV.cellsW (.ptr o f) = [.ptr o f] := spine rfl
theorem plain_nilp  : AV.plain (.nilp) = true := spine rfl
theorem cells_nilp  : AV.cells (.nilp) = [.nilp] := spine rfl
theorem cellW1_nilp  : AV.cellW1 (.nilp) = .nilp := spine rfl
theorem cellsW_nilp  : AV.cellsW (.nilp) = [.nilp] := spine rfl
theorem plain_ro (cs : List AV) : AV.plain (.ro cs) = true := spine rfl
theorem cells_ro (cs : List AV) : AV.cells (.ro cs) = [.ro cs] := spine rfl
theorem cellW1_ro (cs : List AV) : AV.cellW1 (.ro cs) = .ro cs := spine rfl
theorem cellsW_ro (cs : List AV) : AV.cellsW (.ro cs) = [.ro cs] := spine rfl
theorem plain_map (o : Nat) : AV.plain (.map o) = true := spine rfl
theorem cells_map (o : Nat) : AV.cells (.map o) = [.map o] := spine rfl
theorem cellW1_map (o : Nat) : AV.cellW1 (.map o) = .map o := spine rfl
theorem cellsW_map (o : Nat) : AV.cellsW (.map o) = [.map o] := spine rfl
theorem plain_nilm  : AV.plain (.nilm) = true := spine rfl
theorem cells_nilm  : AV.cells (.nilm) = [.nilm] := spine rfl
theorem cellW1_nilm  : AV.cellW1 (.nilm) = .nilm := spine rfl
theorem cellsW_nilm  : AV.cellsW (.nilm) = [.nilm] := spine rfl
theorem plain_func (f : Nat) (a b : List AV) : AV.plain (.func f a b) = true := spine rfl
theorem cells_func (f : Nat) (a b : List AV) : AV.cells (.func f a b) = [.func f a b] := spine rfl
theorem cellW1_func (f : Nat) (a b : List AV) : AV.cellW1 (.func f a b) = .func f a b := spine rfl
theorem cellsW_func (f : Nat) (a b : List AV) : AV.cellsW (.func f a b) = [.func f a b] := spine rfl
theorem plain_nilf  : AV.plain (.nilf) = true := spine rfl
theorem cells_nilf  : AV.cells (.nilf) = [.nilf] := spine rfl
theorem cellW1_nilf  : AV.cellW1 (.nilf) = .nilf := spine rfl
theorem cellsW_nilf  : AV.cellsW (.nilf) = [.nilf] := spine rfl
theorem plain_sl (o f n s : Nat) : AV.plain (.sl o f n s) = true := spine rfl
theorem cells_sl (o f n s : Nat) : AV.cells (.sl o f n s) = [.sl o f n s] := spine rfl
theorem cellW1_sl (o f n s : Nat) : AV.cellW1 (.sl o f n s) = .sl o f n s := spine rfl
theorem cellsW_sl (o f n s : Nat) : AV.cellsW (.sl o f n s) = [.sl o f n s] := spine rfl
theorem plain_iface (t : Nat) (v : AV) : AV.plain (.iface t v) = true := spine rfl
theorem cells_iface (t : Nat) (v : AV) : AV.cells (.iface t v) = [.iface t v] := spine rfl
theorem cellW1_iface (t : Nat) (v : AV) : AV.cellW1 (.iface t v) = .iface t v := spine rfl
theorem cellsW_iface (t : Nat) (v : AV) : AV.cellsW (.iface t v) = [.iface t v] := spine rfl
theorem plain_nili  : AV.plain (.nili) = true := spine rfl
theorem cells_nili  : AV.cells (.nili) = [.nili] := spine rfl
theorem cellW1_nili  : AV.cellW1 (.nili) = .nili := spine rfl
theorem cellsW_nili  : AV.cellsW (.nili) = [.nili] := spine rfl
theorem cellW1_list (w : Bool) (xs : List (List AV)) : AV.cellW1 (.list w xs) = .list (w && xs.isEmpty) xs := spine rfl
theorem plain_agg (cs : List AV) : AV.plain (.agg cs) = true := spine rfl
theorem cells_agg (cs : List AV) : AV.cells (.agg cs) = cs := spine rfl
theorem cellsW_agg (cs : List AV) : AV.cellsW (.agg cs) = cs := spine rfl
theorem cellsW_list (w : Bool) (xs : List (List AV)) : AV.cellsW (.list w xs) = [.list (w && xs.isEmpty) xs] := spine rfl
theorem allPlain_n : allPlain [] = true := spine rfl
theorem allPlain_c (a : AV) (as : List AV) : allPlain (a :: as) = (a.plain && allPlain as) := spine rfl
theorem map_n {α β : Type} (f : α → β) : List.map f [] = [] := spine rfl
theorem map_c {α β : Type} (f : α → β) (a : α) (l : List α) : List.map f (a :: l) = f a :: l.map f := spine rfl
theorem drop_0 {α : Type} (l : List α) : List.drop 0 l = l := spine rfl
theorem drop_s {α : Type} (n : Nat) (a : α) (l : List α) : List.drop (n + 1) (a :: l) = l.drop n := spine rfl
theorem drop_n {α : Type} (n : Nat) : List.drop n ([] : List α) = [] := by cases n <;> rfl
theorem take_0 {α : Type} (l : List α) : List.take 0 l = [] := spine rfl
theorem take_s {α : Type} (n : Nat) (a : α) (l : List α) : List.take (n + 1) (a :: l) = a :: l.take n := spine rfl
theorem take_n {α : Type} (n : Nat) : List.take n ([] : List α) = [] := by cases n <;> rfl
theorem len_n {α : Type} : ([] : List α).length = 0 := spine rfl
theorem len_c {α : Type} (a : α) (l : List α) : (a :: l).length = l.length + 1 := spine rfl
theorem app_c {α : Type} (a : α) (l m : List α) : (a :: l) ++ m = a :: (l ++ m) := spine rfl
theorem app_n {α : Type} (l : List α) : [] ++ l = l := spine rfl
theorem app_nil {α : Type} (l : List α) : l ++ [] = l := List.append_nil l
theorem get_0 {α : Type} (a : α) (l : List α) : (a :: l)[0]? = some a := spine rfl
theorem get_s {α : Type} (n : Nat) (a : α) (l : List α) : (a :: l)[n + 1]? = l[n]? := spine rfl
theorem set_0 {α : Type} (a b : α) (l : List α) : (a :: l).set 0 b = b :: l := spine rfl
theorem set_s {α : Type} (n : Nat) (a b : α) (l : List α) : (a :: l).set (n + 1) b = a :: l.set n b := spine rfl
theorem rep_0 {α : Type} (a : α) : List.replicate 0 a = [] := spine rfl
theorem rep_s {α : Type} (n : Nat) (a : α) : List.replicate (n + 1) a = a :: List.replicate n a := spine rfl
theorem omap_s {α β : Type} (f : α → β) (a : α) : Option.map f (some a) = some (f a) := spine rfl
theorem omap_n {α β : Type} (f : α → β) : Option.map f none = none := spine rfl
theorem isE_n {α : Type} : ([] : List α).isEmpty = true := spine rfl
theorem isE_c {α : Type} (a : α) (l : List α) : (a :: l).isEmpty = false := spine rfl
theorem ite_t {α : Type} (a b : α) : (if True then a else b) = a := if_pos trivial
theorem ite_f {α : Type} (a b : α) : (if False then a else b) = b := if_neg (fun h => h)
theorem itb_t {α : Type} (a b : α) : (if true = true then a else b) = a := if_pos rfl
theorem itb_f {α : Type} (a b : α) : (if false = true then a else b) = b := if_neg (fun h => by cases h)
theorem t_eq_f : (true = false) = False := by simp
theorem f_eq_t : (false = true) = False := by simp
theorem not_t : (!true) = false := spine rfl
theorem not_f : (!false) = true := spine rfl
theorem t_and (b : Bool) : (true && b) = b := spine rfl
theorem and_t (b : Bool) : (b && true) = b := by cases b <;> rfl
theorem f_and (b : Bool) : (false && b) = false := spine rfl
theorem and_f (b : Bool) : (b && false) = false := by cases b <;> rfl
theorem t_or (b : Bool) : (true || b) = true := spine rfl
theorem or_t (b : Bool) : (b || true) = true := by cases b <;> rfl
theorem f_or (b : Bool) : (false || b) = b := spine rfl
theorem or_f (b : Bool) : (b || false) = b := by cases b <;> rfl
theorem and_T (p : Prop) : (p ∧ True) = p := by simp
theorem T_and (p : Prop) : (True ∧ p) = p := by simp
theorem dec_T : decide True = true := spine rfl
theorem dec_F : decide False = false := spine rfl
theorem eqs {α : Type} (a : α) : (a = a) = True := by simp
theorem nn (n : Nat) : (0 ≤ (n : Int)) = True := by simp
theorem tn (n : Nat) : (n : Int).toNat = n := Int.toNat_natCast n
theorem lecast (m n : Nat) : ((m : Int) ≤ (n : Int)) = (m ≤ n) := by simp
theorem lerefl (n : Nat) : (n ≤ n) = True := by simp
theorem ltNx (i j : Nat) : ltI (i : Int) (j : Int) = decide (i < j) := ltN i j
theorem eqNx (i j : Nat) : eqI (i : Int) (j : Int) = decide (i = j) := eqNN i j
theorem brE_e (c : AV) (call : CallT) (n : Nat) (a b : ACode) (fr : List AV) (st : St) : brE c call n a b fr st = brT c (exeT call n a fr st) (exeT call n b fr st) := spine rfl
theorem lt01 : (0 < (1 : Nat)) = True := by simp
theorem lt03 : (0 < (3 : Nat)) = True := by simp
theorem lt13 : (1 < (3 : Nat)) = True := by simp
theorem lt23 : (2 < (3 : Nat)) = True := by simp
theorem il0 : (0 ≤ (0 : Int)) = True := by simp
theorem it0 : (0 : Int).toNat = 0 := spine rfl
theorem il1 : (0 ≤ (1 : Int)) = True := by simp
theorem it1 : (1 : Int).toNat = 1 := spine rfl
theorem il2 : (0 ≤ (2 : Int)) = True := by simp
theorem it2 : (2 : Int).toNat = 2 := spine rfl
theorem m41 : 4 * 1 = (4 : Nat) := spine rfl
theorem W_e (a : AV) : W a = AV.weak (AV.stripB a) := spine rfl
theorem m1_e {β : Type} (a : AV) (f : AV → Option β) : m1 a f = f a := spine rfl
theorem gm_some {β : Type} (c w : Bool) (a : AV) (f : AV → Option β) : gm (.bool c) w a f = f (gV (.bool c) w a) := by unfold gm; rw [gv_some, obind_some]
theorem gm_some2 {β : Type} (x : AV) (w b want : Bool) (a : AV) (f : AV → Option β) : gm (gV x w (.bool b)) want a f = f (gV (gV x w (.bool b)) want a) := by unfold gm; rw [gv_some2, obind_some]
theorem gm_none {β : Type} (w : Bool) (a : AV) (f : AV → Option β) : gm (.tuple []) w a f = f (.tuple []) := by unfold gm; rw [gv_none, obind_some]
theorem z_add (n : Nat) : 0 + n = n := Nat.zero_add n
theorem add_z (n : Nat) : n + 0 = n := spine rfl
theorem beqN (n : Nat) : (n == n) = true := by simp
end Go.Cb.R
namespace Go.Cb
open Go.Cb.R
theorem SS : type_of% (And.intro (And.intro (And.intro (And.intro (And.intro (And.intro (And.intro (And.intro (@exec_seqK) (@exec_blkK)) (And.intro (@exec_ret) (And.intro (@exec_exit) (@exec_skip)))) (And.intro (And.intro (@seqK_normal) (@seqK_exit)) (And.intro (@seqK_ret) (And.intro (@blkK_some) (@blkOut_normal))))) (And.intro (And.intro (And.intro (@blkOut_ret) (@blkOut_exit)) (And.intro (@seqC_x) (And.intro (@blkC_x) (@seqK_obindC)))) (And.intro (And.intro (@blkK_obindC) (And.intro (@exeT_x) (@seqT_x))) (And.intro (@blkT_x) (And.intro (@brT_true) (@brT_false)))))) (And.intro (And.intro (And.intro (And.intro (@seqK_brT) (@blkK_brT)) (And.intro (@exec_loopO) (And.intro (@p1_some) (@p2_some)))) (And.intro (And.intro (@obind_some) (And.intro (@gv_tt) (@gv_tf))) (And.intro (@gv_ff) (And.intro (@gv_ft) (@gv_none))))) (And.intro (And.intro (And.intro (@gv2_tt) (@gv2_tf)) (And.intro (@gv2_ff) (And.intro (@gv2_ft) (@gv2_none)))) (And.intro (And.intro (@gV_tt) (And.intro (@gV_ff) (@gV_tf))) (And.intro (@gV_ft) (And.intro (@gV_none) (@gv_some))))))) (And.intro (And.intro (And.intro (And.intro (And.intro (@gv_some2) (@weak_gV)) (And.intro (@strip_gV) (And.intro (@stripB_gV) (@pick_t)))) (And.intro (And.intro (@pick_f) (@pick_or)) (And.intro (@pick_and) (And.intro (@weak_bool) (@weak_int))))) (And.intro (And.intro (And.intro (@weak_str) (@weak_list)) (And.intro (@weak_ptr) (And.intro (@weak_nilp) (@weak_ro)))) (And.intro (And.intro (@weak_loc) (And.intro (@weak_map) (@weak_nilm))) (And.intro (@weak_func) (And.intro (@weak_nilf) (@weak_agg)))))) (And.intro (And.intro (And.intro (And.intro (@weak_sl) (@weak_iface)) (And.intro (@weak_nili) (And.intro (@weak_tuple) (@weak_undef)))) (And.intro (And.intro (@weak_box) (And.intro (@weak1_bool) (@weak1_int))) (And.intro (@weak1_str) (And.intro (@weak1_list) (@weak1_sl))))) (And.intro (And.intro (And.intro (@weak1_func) (@weak1_ptr)) (And.intro (@weak1_nilp) (And.intro (@weak1_map) (@weak1_nilm)))) (And.intro (And.intro (@strip_bool) (And.intro (@strip_int) (@strip_str))) (And.intro (@strip_list) (And.intro (@strip_ptr) (@strip_nilp)))))))) (And.intro (And.intro (And.intro (And.intro (And.intro (And.intro (@strip_ro) (@strip_loc)) (And.intro (@strip_map) (And.intro (@strip_nilm) (@strip_func)))) (And.intro (And.intro (@strip_nilf) (@strip_agg)) (And.intro (@strip_sl) (And.intro (@strip_tuple) (@strip_undef))))) (And.intro (And.intro (And.intro (@stripB_bool) (@stripB_int)) (And.intro (@stripB_str) (And.intro (@stripB_list) (@stripB_ptr)))) (And.intro (And.intro (@stripB_nilp) (And.intro (@stripB_ro) (@stripB_loc))) (And.intro (@stripB_map) (And.intro (@stripB_nilm) (@stripB_func)))))) (And.intro (And.intro (And.intro (And.intro (@stripB_nilf) (@stripB_agg)) (And.intro (@weak_fresh) (And.intro (@strip_fresh) (@stripB_fresh)))) (And.intro (And.intro (@stripB_sl) (And.intro (@stripB_tuple) (@stripB_undef))) (And.intro (@mv_e) (And.intro (@nilchk_ptr) (@nilchk_loc))))) (And.intro (And.intro (And.intro (@nilchk_ro) (@nilchk_func)) (And.intro (@alloc_e) (And.intro (@boxV_e) (@allocO_e)))) (And.intro (And.intro (@boxO_e) (And.intro (@build_e) (@bslice_e))) (And.intro (@ldLc_e) (And.intro (@ldSt_e) (@ldRo_e))))))) (And.intro (And.intro (And.intro (And.intro (And.intro (@ldAn_ro) (@ldAn_ptr)) (And.intro (@ldLcS_e) (And.intro (@ldStS_e) (@stLc_e)))) (And.intro (And.intro (@stSt_e) (And.intro (@fad_ptr) (@fad_loc))) (And.intro (@fad_ro) (And.intro (@fld_e) (@iad_e))))) (And.intro (And.intro (And.intro (@iad_sl) (@lenL_sl)) (And.intro (@bsliceM_e) (And.intro (@bsliceO_e) (@min2_e)))) (And.intro (And.intro (@eqIS_e) (And.intro (@fillRowsM_n) (@fillRowsM_c))) (And.intro (@appM_nil) (And.intro (@appM_sl) (@aside_n)))))) (And.intro (And.intro (And.intro (And.intro (@aside_p) (@flat_n)) (And.intro (@flat_c) (And.intro (@b2s_e) (@bytesOf_n)))) (And.intro (And.intro (@bytesOf_c) (And.intro (@iadA_ro) (@iadA_ptr))) (And.intro (@iadA_loc) (And.intro (@idxS_e) (@slS_e))))) (And.intro (And.intro (And.intro (@slL_sl) (@slL_e)) (And.intro (@slZ_e) (And.intro (@slA_e) (@bin_e)))) (And.intro (And.intro (@binB_e) (And.intro (@binP_e) (@bi_add))) (And.intro (@bi_sub) (And.intro (@bi_mul) (@bi_quo))))))))) (And.intro (And.intro (And.intro (And.intro (And.intro (And.intro (And.intro (@bi_rem) (@bi_eql)) (And.intro (@bi_neq) (And.intro (@bi_lss) (@bi_leq)))) (And.intro (And.intro (@bi_gtr) (@bi_geq)) (And.intro (@bs_add) (And.intro (@bs_eql) (@bs_neq))))) (And.intro (And.intro (And.intro (@bs_lss) (@bb_eql)) (And.intro (@bb_neq) (And.intro (@bp_eql1) (@bp_eql2)))) (And.intro (And.intro (@bp_eql3) (And.intro (@bp_neq1) (@bp_neq2))) (And.intro (@bp_neq3) (And.intro (@un_not) (@un_neg)))))) (And.intro (And.intro (And.intro (And.intro (@conv_e) (@mkF_e)) (And.intro (@mkM_e) (And.intro (@ext_e) (@lenS_e)))) (And.intro (And.intro (@lenL_e) (And.intro (@app_e) (@takeVal_t))) (And.intro (@takeVal_f) (And.intro (@fillSegs_n) (@fillSegs_c))))) (And.intro (And.intro (And.intro (@fillRows_n) (@fillRows_c)) (And.intro (@setSeg_e) (And.intro (@bounds_ff) (@bounds_tf)))) (And.intro (And.intro (@bounds_ft) (And.intro (@bounds_tt) (@bound_e))) (And.intro (@rowsOk_n) (And.intro (@rowsOk_c) (@locOf_e))))))) (And.intro (And.intro (And.intro (And.intro (And.intro (@plain_bool) (@cells_bool)) (And.intro (@cellW1_bool) (And.intro (@cellsW_bool) (@plain_int)))) (And.intro (And.intro (@cells_int) (And.intro (@cellW1_int) (@cellsW_int))) (And.intro (@plain_str) (And.intro (@cells_str) (@cellW1_str))))) (And.intro (And.intro (And.intro (@cellsW_str) (@plain_list)) (And.intro (@cells_list) (And.intro (@plain_ptr) (@cells_ptr)))) (And.intro (And.intro (@cellW1_ptr) (And.intro (@cellsW_ptr) (@plain_nilp))) (And.intro (@cells_nilp) (And.intro (@cellW1_nilp) (@cellsW_nilp)))))) (And.intro (And.intro (And.intro (And.intro (@plain_ro) (@cells_ro)) (And.intro (@cellW1_ro) (And.intro (@cellsW_ro) (@plain_map)))) (And.intro (And.intro (@cells_map) (And.intro (@cellW1_map) (@cellsW_map))) (And.intro (@plain_nilm) (And.intro (@cells_nilm) (@cellW1_nilm))))) (And.intro (And.intro (And.intro (@cellsW_nilm) (@plain_func)) (And.intro (@cells_func) (And.intro (@cellW1_func) (@cellsW_func)))) (And.intro (And.intro (@plain_nilf) (And.intro (@cells_nilf) (@cellW1_nilf))) (And.intro (@cellsW_nilf) (And.intro (@plain_sl) (@cells_sl)))))))) (And.intro (And.intro (And.intro (And.intro (And.intro (And.intro (@cellW1_sl) (@cellsW_sl)) (And.intro (@plain_iface) (And.intro (@cells_iface) (@cellW1_iface)))) (And.intro (And.intro (@cellsW_iface) (@plain_nili)) (And.intro (@cells_nili) (And.intro (@cellW1_nili) (@cellsW_nili))))) (And.intro (And.intro (And.intro (@cellW1_list) (@plain_agg)) (And.intro (@cells_agg) (And.intro (@cellsW_agg) (@cellsW_list)))) (And.intro (And.intro (@allPlain_n) (And.intro (@allPlain_c) (@map_n))) (And.intro (@map_c) (And.intro (@drop_0) (@drop_s)))))) (And.intro (And.intro (And.intro (And.intro (@drop_n) (@take_0)) (And.intro (@take_s) (And.intro (@take_n) (@len_n)))) (And.intro (And.intro (@len_c) (And.intro (@app_c) (@app_n))) (And.intro (@app_nil) (And.intro (@get_0) (@get_s))))) (And.intro (And.intro (And.intro (@set_0) (@set_s)) (And.intro (@rep_0) (And.intro (@rep_s) (@omap_s)))) (And.intro (And.intro (@omap_n) (And.intro (@isE_n) (@isE_c))) (And.intro (@ite_t) (And.intro (@ite_f) (@itb_t))))))) (And.intro (And.intro (And.intro (And.intro (And.intro (@itb_f) (@t_eq_f)) (And.intro (@f_eq_t) (And.intro (@not_t) (@not_f)))) (And.intro (And.intro (@t_and) (And.intro (@and_t) (@f_and))) (And.intro (@and_f) (And.intro (@t_or) (@or_t))))) (And.intro (And.intro (And.intro (@f_or) (@or_f)) (And.intro (@and_T) (And.intro (@T_and) (@dec_T)))) (And.intro (And.intro (@dec_F) (And.intro (@eqs) (@nn))) (And.intro (@tn) (And.intro (@lecast) (@lerefl)))))) (And.intro (And.intro (And.intro (And.intro (@ltNx) (@eqNx)) (And.intro (@brE_e) (And.intro (@lt01) (@lt03)))) (And.intro (And.intro (@lt13) (And.intro (@lt23) (@il0))) (And.intro (@it0) (And.intro (@il1) (@it1))))) (And.intro (And.intro (And.intro (@il2) (@it2)) (And.intro (@m41) (And.intro (@W_e) (@m1_e)))) (And.intro (And.intro (@gm_some) (And.intro (@gm_some2) (@gm_none))) (And.intro (@z_add) (And.intro (@add_z) (@beqN)))))))))) := And.intro (And.intro (And.intro (And.intro (And.intro (And.intro (And.intro (And.intro (@exec_seqK) (@exec_blkK)) (And.intro (@exec_ret) (And.intro (@exec_exit) (@exec_skip)))) (And.intro (And.intro (@seqK_normal) (@seqK_exit)) (And.intro (@seqK_ret) (And.intro (@blkK_some) (@blkOut_normal))))) (And.intro (And.intro (And.intro (@blkOut_ret) (@blkOut_exit)) (And.intro (@seqC_x) (And.intro (@blkC_x) (@seqK_obindC)))) (And.intro (And.intro (@blkK_obindC) (And.intro (@exeT_x) (@seqT_x))) (And.intro (@blkT_x) (And.intro (@brT_true) (@brT_false)))))) (And.intro (And.intro (And.intro (And.intro (@seqK_brT) (@blkK_brT)) (And.intro (@exec_loopO) (And.intro (@p1_some) (@p2_some)))) (And.intro (And.intro (@obind_some) (And.intro (@gv_tt) (@gv_tf))) (And.intro (@gv_ff) (And.intro (@gv_ft) (@gv_none))))) (And.intro (And.intro (And.intro (@gv2_tt) (@gv2_tf)) (And.intro (@gv2_ff) (And.intro (@gv2_ft) (@gv2_none)))) (And.intro (And.intro (@gV_tt) (And.intro (@gV_ff) (@gV_tf))) (And.intro (@gV_ft) (And.intro (@gV_none) (@gv_some))))))) (And.intro (And.intro (And.intro (And.intro (And.intro (@gv_some2) (@weak_gV)) (And.intro (@strip_gV) (And.intro (@stripB_gV) (@pick_t)))) (And.intro (And.intro (@pick_f) (@pick_or)) (And.intro (@pick_and) (And.intro (@weak_bool) (@weak_int))))) (And.intro (And.intro (And.intro (@weak_str) (@weak_list)) (And.intro (@weak_ptr) (And.intro (@weak_nilp) (@weak_ro)))) (And.intro (And.intro (@weak_loc) (And.intro (@weak_map) (@weak_nilm))) (And.intro (@weak_func) (And.intro (@weak_nilf) (@weak_agg)))))) (And.intro (And.intro (And.intro (And.intro (@weak_sl) (@weak_iface)) (And.intro (@weak_nili) (And.intro (@weak_tuple) (@weak_undef)))) (And.intro (And.intro (@weak_box) (And.intro (@weak1_bool) (@weak1_int))) (And.intro (@weak1_str) (And.intro (@weak1_list) (@weak1_sl))))) (And.intro (And.intro (And.intro (@weak1_func) (@weak1_ptr)) (And.intro (@weak1_nilp) (And.intro (@weak1_map) (@weak1_nilm)))) (And.intro (And.intro (@strip_bool) (And.intro (@strip_int) (@strip_str))) (And.intro (@strip_list) (And.intro (@strip_ptr) (@strip_nilp)))))))) (And.intro (And.intro (And.intro (And.intro (And.intro (And.intro (@strip_ro) (@strip_loc)) (And.intro (@strip_map) (And.intro (@strip_nilm) (@strip_func)))) (And.intro (And.intro (@strip_nilf) (@strip_agg)) (And.intro (@strip_sl) (And.intro (@strip_tuple) (@strip_undef))))) (And.intro (And.intro (And.intro (@stripB_bool) (@stripB_int)) (And.intro (@stripB_str) (And.intro (@stripB_list) (@stripB_ptr)))) (And.intro (And.intro (@stripB_nilp) (And.intro (@stripB_ro) (@stripB_loc))) (And.intro (@stripB_map) (And.intro (@stripB_nilm) (@stripB_func)))))) (And.intro (And.intro (And.intro (And.intro (@stripB_nilf) (@stripB_agg)) (And.intro (@weak_fresh) (And.intro (@strip_fresh) (@stripB_fresh)))) (And.intro (And.intro (@stripB_sl) (And.intro (@stripB_tuple) (@stripB_undef))) (And.intro (@mv_e) (And.intro (@nilchk_ptr) (@nilchk_loc))))) (And.intro (And.intro (And.intro (@nilchk_ro) (@nilchk_func)) (And.intro (@alloc_e) (And.intro (@boxV_e) (@allocO_e)))) (And.intro (And.intro (@boxO_e) (And.intro (@build_e) (@bslice_e))) (And.intro (@ldLc_e) (And.intro (@ldSt_e) (@ldRo_e))))))) (And.intro (And.intro (And.intro (And.intro (And.intro (@ldAn_ro) (@ldAn_ptr)) (And.intro (@ldLcS_e) (And.intro (@ldStS_e) (@stLc_e)))) (And.intro (And.intro (@stSt_e) (And.intro (@fad_ptr) (@fad_loc))) (And.intro (@fad_ro) (And.intro (@fld_e) (@iad_e))))) (And.intro (And.intro (And.intro (@iad_sl) (@lenL_sl)) (And.intro (@bsliceM_e) (And.intro (@bsliceO_e) (@min2_e)))) (And.intro (And.intro (@eqIS_e) (And.intro (@fillRowsM_n) (@fillRowsM_c))) (And.intro (@appM_nil) (And.intro (@appM_sl) (@aside_n)))))) (And.intro (And.intro (And.intro (And.intro (@aside_p) (@flat_n)) (And.intro (@flat_c) (And.intro (@b2s_e) (@bytesOf_n)))) (And.intro (And.intro (@bytesOf_c) (And.intro (@iadA_ro) (@iadA_ptr))) (And.intro (@iadA_loc) (And.intro (@idxS_e) (@slS_e))))) (And.intro (And.intro (And.intro (@slL_sl) (@slL_e)) (And.intro (@slZ_e) (And.intro (@slA_e) (@bin_e)))) (And.intro (And.intro (@binB_e) (And.intro (@binP_e) (@bi_add))) (And.intro (@bi_sub) (And.intro (@bi_mul) (@bi_quo))))))))) (And.intro (And.intro (And.intro (And.intro (And.intro (And.intro (And.intro (@bi_rem) (@bi_eql)) (And.intro (@bi_neq) (And.intro (@bi_lss) (@bi_leq)))) (And.intro (And.intro (@bi_gtr) (@bi_geq)) (And.intro (@bs_add) (And.intro (@bs_eql) (@bs_neq))))) (And.intro (And.intro (And.intro (@bs_lss) (@bb_eql)) (And.intro (@bb_neq) (And.intro (@bp_eql1) (@bp_eql2)))) (And.intro (And.intro (@bp_eql3) (And.intro (@bp_neq1) (@bp_neq2))) (And.intro (@bp_neq3) (And.intro (@un_not) (@un_neg)))))) (And.intro (And.intro (And.intro (And.intro (@conv_e) (@mkF_e)) (And.intro (@mkM_e) (And.intro (@ext_e) (@lenS_e)))) (And.intro (And.intro (@lenL_e) (And.intro (@app_e) (@takeVal_t))) (And.intro (@takeVal_f) (And.intro (@fillSegs_n) (@fillSegs_c))))) (And.intro (And.intro (And.intro (@fillRows_n) (@fillRows_c)) (And.intro (@setSeg_e) (And.intro (@bounds_ff) (@bounds_tf)))) (And.intro (And.intro (@bounds_ft) (And.intro (@bounds_tt) (@bound_e))) (And.intro (@rowsOk_n) (And.intro (@rowsOk_c) (@locOf_e))))))) (And.intro (And.intro (And.intro (And.intro (And.intro (@plain_bool) (@cells_bool)) (And.intro (@cellW1_bool) (And.intro (@cellsW_bool) (@plain_int)))) (And.intro (And.intro (@cells_int) (And.intro (@cellW1_int) (@cellsW_int))) (And.intro (@plain_str) (And.intro (@cells_str) (@cellW1_str))))) (And.intro (And.intro (And.intro (@cellsW_str) (@plain_list)) (And.intro (@cells_list) (And.intro (@plain_ptr) (@cells_ptr)))) (And.intro (And.intro (@cellW1_ptr) (And.intro (@cellsW_ptr) (@plain_nilp))) (And.intro (@cells_nilp) (And.intro (@cellW1_nilp) (@cellsW_nilp)))))) (And.intro (And.intro (And.intro (And.intro (@plain_ro) (@cells_ro)) (And.intro (@cellW1_ro) (And.intro (@cellsW_ro) (@plain_map)))) (And.intro (And.intro (@cells_map) (And.intro (@cellW1_map) (@cellsW_map))) (And.intro (@plain_nilm) (And.intro (@cells_nilm) (@cellW1_nilm))))) (And.intro (And.intro (And.intro (@cellsW_nilm) (@plain_func)) (And.intro (@cells_func) (And.intro (@cellW1_func) (@cellsW_func)))) (And.intro (And.intro (@plain_nilf) (And.intro (@cells_nilf) (@cellW1_nilf))) (And.intro (@cellsW_nilf) (And.intro (@plain_sl) (@cells_sl)))))))) (And.intro (And.intro (And.intro (And.intro (And.intro (And.intro (@cellW1_sl) (@cellsW_sl)) (And.intro (@plain_iface) (And.intro (@cells_iface) (@cellW1_iface)))) (And.intro (And.intro (@cellsW_iface) (@plain_nili)) (And.intro (@cells_nili) (And.intro (@cellW1_nili) (@cellsW_nili))))) (And.intro (And.intro (And.intro (@cellW1_list) (@plain_agg)) (And.intro (@cells_agg) (And.intro (@cellsW_agg) (@cellsW_list)))) (And.intro (And.intro (@allPlain_n) (And.intro (@allPlain_c) (@map_n))) (And.intro (@map_c) (And.intro (@drop_0) (@drop_s)))))) (And.intro (And.intro (And.intro (And.intro (@drop_n) (@take_0)) (And.intro (@take_s) (And.intro (@take_n) (@len_n)))) (And.intro (And.intro (@len_c) (And.intro (@app_c) (@app_n))) (And.intro (@app_nil) (And.intro (@get_0) (@get_s))))) (And.intro (And.intro (And.intro (@set_0) (@set_s)) (And.intro (@rep_0) (And.intro (@rep_s) (@omap_s)))) (And.intro (And.intro (@omap_n) (And.intro (@isE_n) (@isE_c))) (And.intro (@ite_t) (And.intro (@ite_f) (@itb_t))))))) (And.intro (And.intro (And.intro (And.intro (And.intro (@itb_f) (@t_eq_f)) (And.intro (@f_eq_t) (And.intro (@not_t) (@not_f)))) (And.intro (And.intro (@t_and) (And.intro (@and_t) (@f_and))) (And.intro (@and_f) (And.intro (@t_or) (@or_t))))) (And.intro (And.intro (And.intro (@f_or) (@or_f)) (And.intro (@and_T) (And.intro (@T_and) (@dec_T)))) (And.intro (And.intro (@dec_F) (And.intro (@eqs) (@nn))) (And.intro (@tn) (And.intro (@lecast) (@lerefl)))))) (And.intro (And.intro (And.intro (And.intro (@ltNx) (@eqNx)) (And.intro (@brE_e) (And.intro (@lt01) (@lt03)))) (And.intro (And.intro (@lt13) (And.intro (@lt23) (@il0))) (And.intro (@it0) (And.intro (@il1) (@it1))))) (And.intro (And.intro (And.intro (@il2) (@it2)) (And.intro (@m41) (And.intro (@W_e) (@m1_e)))) (And.intro (And.intro (@gm_some) (And.intro (@gm_some2) (@gm_none))) (And.intro (@z_add) (And.intro (@add_z) (@beqN)))))))))
end Go.Cb
/-
 THE ABSTRACT MACHINE, part 42: the operations told so that the kernel reckons them quickly, at any kind of answer (printed out of parts 38 and 39).
-/
set_option maxRecDepth 4000
set_option linter.unusedVariables false
set_option linter.unusedSimpArgs false
namespace Go.Cb.G
open Go Go.Cb
variable {ρ : Type}
/-! taking values apart -/
section
noncomputable def onI (x : AV) (e : (Option ρ)) (k : IntKind → Int → (Option ρ)) : (Option ρ) := AV.rec (motive_1 := fun _ => (Option ρ)) (motive_2 := fun _ => Unit) (motive_3 := fun _ => Unit)
 e (fun _ => e) (fun t n => k t n) (fun _ => e) (fun _ _ _ => e) (fun _ _ => e) e (fun _ _ => e) (fun _ _ => e) (fun _ _ => e) (fun _ => e) e (fun _ _ _ _ _ => e) e (fun _ _ => e) (fun _ _ => e) (fun _ _ _ => e) e (fun _ _ _ _ => e) (fun _ _ => e)
 () (fun _ _ _ _ => ()) () (fun _ _ _ _ => ()) x
noncomputable def onIS (x : AV) (e : (Option ρ)) (k : IntKind → Int → (Option ρ)) (l : List Nat → (Option ρ)) : (Option ρ) := AV.rec (motive_1 := fun _ => (Option ρ)) (motive_2 := fun _ => Unit) (motive_3 := fun _ => Unit)
 e (fun _ => e) (fun t n => k t n) (fun s => l s) (fun _ _ _ => e) (fun _ _ => e) e (fun _ _ => e) (fun _ _ => e) (fun _ _ => e) (fun _ => e) e (fun _ _ _ _ _ => e) e (fun _ _ => e) (fun _ _ => e) (fun _ _ _ => e) e (fun _ _ _ _ => e) (fun _ _ => e)
 () (fun _ _ _ _ => ()) () (fun _ _ _ _ => ()) x
noncomputable def onS (x : AV) (e : (Option ρ)) (k : List Nat → (Option ρ)) : (Option ρ) := AV.rec (motive_1 := fun _ => (Option ρ)) (motive_2 := fun _ => Unit) (motive_3 := fun _ => Unit)
 e (fun _ => e) (fun t n => e) (fun s => k s) (fun _ _ _ => e) (fun _ _ => e) e (fun _ _ => e) (fun _ _ => e) (fun _ _ => e) (fun _ => e) e (fun _ _ _ _ _ => e) e (fun _ _ => e) (fun _ _ => e) (fun _ _ _ => e) e (fun _ _ _ _ => e) (fun _ _ => e)
 () (fun _ _ _ _ => ()) () (fun _ _ _ _ => ()) x
noncomputable def onB (x : AV) (e : (Option ρ)) (k : Bool → (Option ρ)) : (Option ρ) := AV.rec (motive_1 := fun _ => (Option ρ)) (motive_2 := fun _ => Unit) (motive_3 := fun _ => Unit)
 e (fun b => k b) (fun t n => e) (fun s => e) (fun _ _ _ => e) (fun _ _ => e) e (fun _ _ => e) (fun _ _ => e) (fun _ _ => e) (fun _ => e) e (fun _ _ _ _ _ => e) e (fun _ _ => e) (fun _ _ => e) (fun _ _ _ => e) e (fun _ _ _ _ => e) (fun _ _ => e)
 () (fun _ _ _ _ => ()) () (fun _ _ _ _ => ()) x
noncomputable def onBT (x : AV) (e : (Option ρ)) (k : Bool → (Option ρ)) (t : List AV → (Option ρ)) : (Option ρ) := AV.rec (motive_1 := fun _ => (Option ρ)) (motive_2 := fun _ => Unit) (motive_3 := fun _ => Unit)
 e (fun b => k b) (fun t n => e) (fun s => e) (fun _ _ _ => e) (fun _ _ => e) e (fun _ _ => e) (fun _ _ => e) (fun _ _ => e) (fun _ => e) e (fun _ _ _ _ _ => e) e (fun _ _ => e) (fun vs _ => t vs) (fun _ _ _ => e) e (fun _ _ _ _ => e) (fun _ _ => e)
 () (fun _ _ _ _ => ()) () (fun _ _ _ _ => ()) x
noncomputable def onL (x : AV) (e : (Option ρ)) (k : List (List AV) → (Option ρ)) : (Option ρ) := AV.rec (motive_1 := fun _ => (Option ρ)) (motive_2 := fun _ => Unit) (motive_3 := fun _ => Unit)
 e (fun b => e) (fun t n => e) (fun s => e) (fun _ xs _ => k xs) (fun _ _ => e) e (fun _ _ => e) (fun _ _ => e) (fun _ _ => e) (fun _ => e) e (fun _ _ _ _ _ => e) e (fun _ _ => e) (fun _ _ => e) (fun _ _ _ => e) e (fun _ _ _ _ => e) (fun _ _ => e)
 () (fun _ _ _ _ => ()) () (fun _ _ _ _ => ()) x
noncomputable def onP (x : AV) (e : (Option ρ)) (k : Nat → Nat → (Option ρ)) : (Option ρ) := AV.rec (motive_1 := fun _ => (Option ρ)) (motive_2 := fun _ => Unit) (motive_3 := fun _ => Unit)
 e (fun b => e) (fun t n => e) (fun s => e) (fun _ xs _ => e) (fun o f => k o f) e (fun _ _ => e) (fun _ _ => e) (fun _ _ => e) (fun _ => e) e (fun _ _ _ _ _ => e) e (fun _ _ => e) (fun _ _ => e) (fun _ _ _ => e) e (fun _ _ _ _ => e) (fun _ _ => e)
 () (fun _ _ _ _ => ()) () (fun _ _ _ _ => ()) x
noncomputable def onPRL (x : AV) (e : (Option ρ)) (k : Nat → Nat → (Option ρ)) (l : List AV → (Option ρ)) (m : Nat → Nat → (Option ρ)) : (Option ρ) := AV.rec (motive_1 := fun _ => (Option ρ)) (motive_2 := fun _ => Unit) (motive_3 := fun _ => Unit)
 e (fun b => e) (fun t n => e) (fun s => e) (fun _ xs _ => e) (fun o f => k o f) e (fun cs _ => l cs) (fun i f => m i f) (fun _ _ => e) (fun _ => e) e (fun _ _ _ _ _ => e) e (fun _ _ => e) (fun _ _ => e) (fun _ _ _ => e) e (fun _ _ _ _ => e) (fun _ _ => e)
 () (fun _ _ _ _ => ()) () (fun _ _ _ _ => ()) x
noncomputable def onR (x : AV) (e : (Option ρ)) (l : List AV → (Option ρ)) : (Option ρ) := AV.rec (motive_1 := fun _ => (Option ρ)) (motive_2 := fun _ => Unit) (motive_3 := fun _ => Unit)
 e (fun b => e) (fun t n => e) (fun s => e) (fun _ xs _ => e) (fun o f => e) e (fun cs _ => l cs) (fun _ _ => e) (fun _ _ => e) (fun _ => e) e (fun _ _ _ _ _ => e) e (fun _ _ => e) (fun _ _ => e) (fun _ _ _ => e) e (fun _ _ _ _ => e) (fun _ _ => e)
 () (fun _ _ _ _ => ()) () (fun _ _ _ _ => ()) x
noncomputable def onBx (x : AV) (e : (Option ρ)) (l : List AV → (Option ρ)) : (Option ρ) := AV.rec (motive_1 := fun _ => (Option ρ)) (motive_2 := fun _ => Unit) (motive_3 := fun _ => Unit)
 e (fun b => e) (fun t n => e) (fun s => e) (fun _ xs _ => e) (fun o f => e) e (fun cs _ => e) (fun _ _ => e) (fun cs _ => l cs) (fun _ => e) e (fun _ _ _ _ _ => e) e (fun _ _ => e) (fun _ _ => e) (fun _ _ _ => e) e (fun _ _ _ _ => e) (fun _ _ => e)
 () (fun _ _ _ _ => ()) () (fun _ _ _ _ => ()) x
noncomputable def onLc (x : AV) (e : (Option ρ)) (l : Nat → Nat → (Option ρ)) : (Option ρ) := AV.rec (motive_1 := fun _ => (Option ρ)) (motive_2 := fun _ => Unit) (motive_3 := fun _ => Unit)
 e (fun b => e) (fun t n => e) (fun s => e) (fun _ xs _ => e) (fun o f => e) e (fun cs _ => e) (fun i f => l i f) (fun cs _ => e) (fun _ => e) e (fun _ _ _ _ _ => e) e (fun _ _ => e) (fun _ _ => e) (fun _ _ _ => e) e (fun _ _ _ _ => e) (fun _ _ => e)
 () (fun _ _ _ _ => ()) () (fun _ _ _ _ => ()) x

theorem onI_eq (x : AV) (e : (Option ρ)) (k : IntKind → Int → (Option ρ)) : onI x e k = match x with | .int t n => k t n | _ => e := by cases x <;> rfl
theorem onIS_eq (x : AV) (e : (Option ρ)) (k : IntKind → Int → (Option ρ)) (l : List Nat → (Option ρ)) : onIS x e k l = match x with | .int t n => k t n | .str s => l s | _ => e := by cases x <;> rfl
theorem onS_eq (x : AV) (e : (Option ρ)) (k : List Nat → (Option ρ)) : onS x e k = match x with | .str s => k s | _ => e := by cases x <;> rfl
theorem onB_eq (x : AV) (e : (Option ρ)) (k : Bool → (Option ρ)) : onB x e k = match x with | .bool b => k b | _ => e := by cases x <;> rfl
theorem onBT_eq (x : AV) (e : (Option ρ)) (k : Bool → (Option ρ)) (t : List AV → (Option ρ)) : onBT x e k t = match x with | .bool b => k b | .tuple vs => t vs | _ => e := by cases x <;> rfl
theorem onL_eq (x : AV) (e : (Option ρ)) (k : List (List AV) → (Option ρ)) : onL x e k = match x with | .list _ xs => k xs | _ => e := by cases x <;> rfl
theorem onP_eq (x : AV) (e : (Option ρ)) (k : Nat → Nat → (Option ρ)) : onP x e k = match x with | .ptr o f => k o f | _ => e := by cases x <;> rfl
theorem onPRL_eq (x : AV) (e : (Option ρ)) (k : Nat → Nat → (Option ρ)) (l : List AV → (Option ρ)) (m : Nat → Nat → (Option ρ)) : onPRL x e k l m = match x with | .ptr o f => k o f | .ro cs => l cs | .loc i f => m i f | _ => e := by cases x <;> rfl
theorem onR_eq (x : AV) (e : (Option ρ)) (l : List AV → (Option ρ)) : onR x e l = match x with | .ro cs => l cs | _ => e := by cases x <;> rfl
theorem onBx_eq (x : AV) (e : (Option ρ)) (l : List AV → (Option ρ)) : onBx x e l = match x with | .box cs => l cs | _ => e := by cases x <;> rfl
theorem onLc_eq (x : AV) (e : (Option ρ)) (l : Nat → Nat → (Option ρ)) : onLc x e l = match x with | .loc i f => l i f | _ => e := by cases x <;> rfl
end

noncomputable def kIx (k : IntKind) : Nat := IntKind.rec (motive := fun _ => Nat) 0 1 2 3 4 5 6 7 k
noncomputable def cB (b : Bool) (x y : (Option ρ)) : (Option ρ) := Bool.rec (motive := fun _ => (Option ρ)) y x b
theorem cB_eq (b : Bool) (x y : (Option ρ)) : cB b x y = if b = true then x else y := by cases b <;> rfl
theorem kIx_eq (a b : IntKind) : Nat.beq (kIx a) (kIx b) = decide (a = b) := by cases a <;> cases b <;> rfl
noncomputable def bo (b : Bool) (k : AV → (Option ρ)) : (Option ρ) := cB b (k (.bool true)) (k (.bool false))
theorem bo_eq (b : Bool) (k : AV → (Option ρ)) : bo b k = k (.bool b) := by cases b <;> rfl
noncomputable def natK (n : Nat) (k : Nat → (Option ρ)) : (Option ρ) := Nat.rec (motive := fun _ => (Option ρ)) (k 0) (fun m _ => k (Nat.succ m)) n
theorem natK_eq (n : Nat) (k : Nat → (Option ρ)) : natK n k = k n := by cases n <;> rfl
noncomputable def nn (a b : Int) (e : (Option ρ)) (k : Nat → Nat → (Option ρ)) : (Option ρ) := Int.rec (motive := fun _ => (Option ρ)) (fun a => Int.rec (motive := fun _ => (Option ρ)) (fun b => k a b) (fun _ => e) b) (fun _ => e) a
theorem nn_eq (a b : Int) (e : (Option ρ)) (k : Nat → Nat → (Option ρ)) : nn a b e k = match a, b with | .ofNat a, .ofNat b => k a b | _, _ => e := by cases a <;> cases b <;> rfl
noncomputable def eqF (x : List Nat) : List Nat → Bool := List.rec (motive := fun _ => List Nat → Bool) (fun y => List.rec (motive := fun _ => Bool) true (fun _ _ _ => false) y)
 (fun a _ ih y => List.rec (motive := fun _ => Bool) false (fun b t _ => Bool.rec (motive := fun _ => Bool) false (ih t) (Nat.beq a b)) y) x
theorem eqF_eq : ∀ x y : List Nat, eqF x y = eqN x y
 | [], [] => rfl
 | [], _ :: _ => rfl
 | _ :: _, [] => rfl
 | a :: x, b :: y => by
  have ih := eqF_eq x y
  show (Bool.rec (motive := fun _ => Bool) false (eqF x y) (Nat.beq a b)) = (Nat.beq a b && eqN x y)
  rw [ih]
  cases Nat.beq a b <;> rfl
noncomputable def nthO {β : Type} (l : List β) (e : (Option ρ)) (k : β → (Option ρ)) : Nat → (Option ρ) := List.rec (motive := fun _ => Nat → (Option ρ)) (fun _ => e) (fun a _ ih i => Nat.rec (motive := fun _ => (Option ρ)) (k a) (fun j _ => ih j) i) l
theorem nthO_eq {β : Type} : ∀ (l : List β) (e : (Option ρ)) (k : β → (Option ρ)) (i : Nat), nthO l e k i = match l[i]? with | some a => k a | none => e
 | [], e, k, i => by cases i <;> rfl
 | a :: l, e, k, 0 => rfl
 | a :: l, e, k, i + 1 => by
  have := nthO_eq l e k i
  show nthO l e k i = _
  rw [this]
  simp
noncomputable def lenF {β : Type} (l : List β) : Nat := List.rec (motive := fun _ => Nat) 0 (fun _ _ n => Nat.add n 1) l
theorem lenF_eq {β : Type} : ∀ l : List β, lenF l = l.length
 | [] => rfl
 | a :: l => by
  show Nat.add (lenF l) 1 = _
  rw [lenF_eq l]
  rfl
noncomputable def dropF (n : Nat) : List AV → List AV := Nat.rec (motive := fun _ => List AV → List AV) (fun l => l) (fun _ ih l => List.rec (motive := fun _ => List AV) [] (fun _ t _ => ih t) l) n
theorem dropF_eq : ∀ (n : Nat) (l : List AV), dropF n l = l.drop n
 | 0, l => rfl
 | n + 1, [] => rfl
 | n + 1, a :: l => dropF_eq n l
noncomputable def dropC {β : Type} (i : Nat) (l : List β) : List β := Nat.rec (motive := fun _ => List β) l (fun _ ih => List.rec (motive := fun _ => List β) [] (fun _ t _ => t) ih) i
theorem dropC_eq {β : Type} : ∀ (i : Nat) (l : List β), dropC i l = l.drop i
 | 0, l => rfl
 | i + 1, l => by
  have := dropC_eq i l
  show List.rec (motive := fun _ => List β) [] (fun _ t _ => t) (dropC i l) = _
  rw [this, show l.drop (i + 1) = (l.drop i).drop 1 by rw [List.drop_drop]]
  cases l.drop i <;> rfl
noncomputable def atO {β : Type} (l : List β) (e : (Option ρ)) (k : β → (Option ρ)) (i : Nat) : (Option ρ) := List.rec (motive := fun _ => (Option ρ)) e (fun a _ _ => k a) (dropC i l)
theorem atO_eq {β : Type} (l : List β) (e : (Option ρ)) (k : β → (Option ρ)) (i : Nat) : atO l e k i = match l[i]? with | some a => k a | none => e := by
 unfold atO
 rw [dropC_eq]
 have h : l[i]? = (l.drop i)[0]? := by simp
 rw [h]
 cases l.drop i <;> rfl
noncomputable def takeK {β : Type} (n : Nat) (l : List β) (k : List β → (Option ρ)) : (Option ρ) := Nat.rec (motive := fun _ => List β → (List β → (Option ρ)) → (Option ρ)) (fun _ k => k []) (fun _ ih l k => List.rec (motive := fun _ => (Option ρ)) (k []) (fun a t _ => ih t fun r => k (a :: r)) l) n l k
theorem takeK_eq {β : Type} : ∀ (n : Nat) (l : List β) (k : List β → (Option ρ)), takeK n l k = k (l.take n)
 | 0, l, k => by show k [] = _; rw [List.take_zero]
 | n + 1, [], k => rfl
 | n + 1, a :: l, k => takeK_eq n l fun r => k (a :: r)
noncomputable def appK {β : Type} (l r : List β) (k : List β → (Option ρ)) : (Option ρ) := List.rec (motive := fun _ => (List β → (Option ρ)) → (Option ρ)) (fun k => k r) (fun a _ ih k => ih fun t => k (a :: t)) l k
theorem appK_eq {β : Type} (r : List β) : ∀ (l : List β) (k : List β → (Option ρ)), appK l r k = k (l ++ r)
 | [], k => rfl
 | a :: l, k => appK_eq r l fun t => k (a :: t)
noncomputable def headO (l : List AV) (e : (Option ρ)) (k : AV → (Option ρ)) : (Option ρ) := List.rec (motive := fun _ => (Option ρ)) e (fun a _ _ => k a) l
theorem headO_eq (l : List AV) (e : (Option ρ)) (k : AV → (Option ρ)) : headO l e k = match l with | a :: _ => k a | [] => e := by cases l <;> rfl

noncomputable def w1K (x : AV) (k : AV → (Option ρ)) : (Option ρ) := AV.rec (motive_1 := fun _ => (Option ρ)) (motive_2 := fun _ => Unit) (motive_3 := fun _ => Unit)
 (k .undef) (fun b => k (.bool b)) (fun t n => k (.int t n)) (fun s => k (.str s)) (fun _ xs _ => k (.list false xs)) (fun o f => k (.ptr o f)) (k .nilp) (fun cs _ => k (.ro cs)) (fun i f => k (.loc i f)) (fun cs _ => k (.box cs)) (fun o => k (.map o)) (k .nilm) (fun f a c _ _ => k (.func f a c)) (k .nilf) (fun cs _ => k (.agg cs)) (fun vs _ => k (.tuple vs)) (fun t v _ => k (.iface t v)) (k .nili) (fun o f n s => k (.sl o f n s)) (fun xs _ => k (.fresh xs))
 () (fun _ _ _ _ => ()) () (fun _ _ _ _ => ()) x
theorem w1K_eq (x : AV) (k : AV → (Option ρ)) : w1K x k = k x.weak1 := by cases x <;> rfl
noncomputable def mapW (l : List AV) (k : List AV → (Option ρ)) : (Option ρ) := List.rec (motive := fun _ => (List AV → (Option ρ)) → (Option ρ)) (fun k => k []) (fun a _ ih k => w1K a fun w => ih fun r => k (w :: r)) l k
theorem mapW_eq : ∀ (l : List AV) (k : List AV → (Option ρ)), mapW l k = k (l.map AV.weak1)
 | [], k => rfl
 | a :: l, k => by
  show w1K a (fun w => mapW l fun r => k (w :: r)) = _
  rw [w1K_eq, mapW_eq l]
  rfl

noncomputable def drop8 {β : Type} (l : List β) (e : (Option ρ)) (k : List β → (Option ρ)) : (Option ρ) := List.rec (motive := fun _ => (Option ρ)) e (fun _ l _ => List.rec (motive := fun _ => (Option ρ)) e (fun _ l _ => List.rec (motive := fun _ => (Option ρ)) e (fun _ l _ => List.rec (motive := fun _ => (Option ρ)) e (fun _ l _ => List.rec (motive := fun _ => (Option ρ)) e (fun _ l _ => List.rec (motive := fun _ => (Option ρ)) e (fun _ l _ => List.rec (motive := fun _ => (Option ρ)) e (fun _ l _ => List.rec (motive := fun _ => (Option ρ)) e (fun _ l _ => k l) l) l) l) l) l) l) l) l
theorem drop8_eq {β : Type} (l : List β) (e : (Option ρ)) (k : List β → (Option ρ)) : drop8 l e k = if 8 ≤ l.length then k (l.drop 8) else e := by
 match l with
 | [] => rfl
 | [_] => rfl
 | [_, _] => rfl
 | [_, _, _] => rfl
 | [_, _, _, _] => rfl
 | [_, _, _, _, _] => rfl
 | [_, _, _, _, _, _] => rfl
 | [_, _, _, _, _, _, _] => rfl
 | _ :: _ :: _ :: _ :: _ :: _ :: _ :: _ :: t => rw [if_pos (by simp)]; rfl
noncomputable def nthQ {β : Type} (l : List β) (e : (Option ρ)) (k : β → (Option ρ)) (i : Nat) : (Option ρ) := Nat.rec (motive := fun _ => List β → (Option ρ)) (fun l => nthO l e k (Nat.mod i 8)) (fun _ ih l => drop8 l e ih) (Nat.div i 8) l
theorem nthQ_go {β : Type} (e : (Option ρ)) (k : β → (Option ρ)) (r : Nat) : ∀ (q : Nat) (l : List β), Nat.rec (motive := fun _ => List β → (Option ρ)) (fun l => nthO l e k r) (fun _ ih l => drop8 l e ih) q l = nthO l e k (8 * q + r)
 | 0, l => by show nthO l e k r = _; rw [Nat.mul_zero, Nat.zero_add]
 | q + 1, l => by
  show drop8 l e (fun l => Nat.rec (motive := fun _ => List β → (Option ρ)) (fun l => nthO l e k r) (fun _ ih l => drop8 l e ih) q l) = _
  rw [drop8_eq, nthQ_go e k r q (l.drop 8), nthO_eq, nthO_eq]
  split
  · rw [List.getElem?_drop, show 8 + (8 * q + r) = 8 * (q + 1) + r by omega]
  · rw [List.getElem?_eq_none (by omega)]
theorem nthQ_eq {β : Type} (l : List β) (e : (Option ρ)) (k : β → (Option ρ)) (i : Nat) : nthQ l e k i = match l[i]? with | some a => k a | none => e := by
 unfold nthQ
 rw [nthQ_go e k (Nat.mod i 8) (Nat.div i 8) l, nthO_eq, show 8 * Nat.div i 8 + Nat.mod i 8 = i from Nat.div_add_mod i 8]
noncomputable def set8 {β : Type} (l : List β) (e : (Option ρ)) (ih : List β → (List β → (Option ρ)) → (Option ρ)) (k : List β → (Option ρ)) : (Option ρ) := List.rec (motive := fun _ => (Option ρ)) e (fun a0 l _ => List.rec (motive := fun _ => (Option ρ)) e (fun a1 l _ => List.rec (motive := fun _ => (Option ρ)) e (fun a2 l _ => List.rec (motive := fun _ => (Option ρ)) e (fun a3 l _ => List.rec (motive := fun _ => (Option ρ)) e (fun a4 l _ => List.rec (motive := fun _ => (Option ρ)) e (fun a5 l _ => List.rec (motive := fun _ => (Option ρ)) e (fun a6 l _ => List.rec (motive := fun _ => (Option ρ)) e (fun a7 l _ => ih l (fun r => k (a0 :: a1 :: a2 :: a3 :: a4 :: a5 :: a6 :: a7 :: r))) l) l) l) l) l) l) l) l
theorem set8_eq {β : Type} (l : List β) (e : (Option ρ)) (ih : List β → (List β → (Option ρ)) → (Option ρ)) (k : List β → (Option ρ)) : set8 l e ih k = if 8 ≤ l.length then ih (l.drop 8) (fun r => k (l.take 8 ++ r)) else e := by
 match l with
 | [] => rfl
 | [_] => rfl
 | [_, _] => rfl
 | [_, _, _] => rfl
 | [_, _, _, _] => rfl
 | [_, _, _, _, _] => rfl
 | [_, _, _, _, _, _] => rfl
 | [_, _, _, _, _, _, _] => rfl
 | _ :: _ :: _ :: _ :: _ :: _ :: _ :: _ :: t => rw [if_pos (by simp)]; rfl
/-! the operations -/
section
variable (c : CallT) (b : AV) (s : St) (f : AV → (Option ρ))
noncomputable def qEql (x y : AV) : (Option ρ) := onIS x none (fun t m => onI y none fun u n => cB (Nat.beq (kIx t) (kIx u)) (nn m n (bo (eqI m n) f) fun a b => bo (Nat.beq a b) f) none) (fun l => onS y none fun r => bo (eqF l r) f)
noncomputable def qNeq (x y : AV) : (Option ρ) := onIS x none (fun t m => onI y none fun u n => cB (Nat.beq (kIx t) (kIx u)) (nn m n (bo (!eqI m n) f) fun a b => cB (Nat.beq a b) (f (.bool false)) (f (.bool true))) none) (fun l => onS y none fun r => cB (eqF l r) (f (.bool false)) (f (.bool true)))
noncomputable def qCmp (op : BinOp) (g : Nat → Nat → Bool) (x y : AV) : (Option ρ) := onI x (obind (p1 (sem (.bin op) c [x, y] b s)) f) (fun t m => onI y none fun u n => cB (Nat.beq (kIx t) (kIx u)) (nn m n (obind (p1 (sem (.bin op) c [.int t m, .int u n] b s)) f) fun a b => bo (g a b) f) none)
noncomputable def qAdd (x y : AV) : (Option ρ) := onI x (obind (p1 (sem (.bin .add) c [x, y] b s)) f) (fun t m => onI y none fun u n => cB (Nat.beq (kIx t) (kIx u)) (nn m n (obind (p1 (sem (.bin .add) c [.int t m, .int u n] b s)) f)
 fun i j => natK (Nat.add i j) fun r => cB (Nat.blt r 128) (f (.int t (.ofNat r))) (cB (Nat.beq (kIx t) 3) (cB (Nat.blt r 9223372036854775808) (f (.int t (.ofNat r))) (obind (p1 (sem (.bin .add) c [.int t m, .int u n] b s)) f)) (obind (p1 (sem (.bin .add) c [.int t m, .int u n] b s)) f))) none)
noncomputable def qSub (x y : AV) : (Option ρ) := onI x (obind (p1 (sem (.bin .sub) c [x, y] b s)) f) (fun t m => onI y none fun u n => cB (Nat.beq (kIx t) (kIx u)) (nn m n (obind (p1 (sem (.bin .sub) c [.int t m, .int u n] b s)) f)
 fun i j => cB (Nat.ble j i) (natK (Nat.sub i j) fun r => cB (Nat.blt r 128) (f (.int t (.ofNat r))) (cB (Nat.beq (kIx t) 3) (cB (Nat.blt r 9223372036854775808) (f (.int t (.ofNat r))) (obind (p1 (sem (.bin .sub) c [.int t m, .int u n] b s)) f)) (obind (p1 (sem (.bin .sub) c [.int t m, .int u n] b s)) f))) (obind (p1 (sem (.bin .sub) c [.int t m, .int u n] b s)) f)) none)
noncomputable def qNot (x : AV) : (Option ρ) := onB x none fun y => cB y (f (.bool false)) (f (.bool true))
noncomputable def qPlain (x : AV) : (Option ρ) := cB x.plain (f x) none
noncomputable def qPick (x y z : AV) : (Option ρ) := onB x none fun v => cB v (qPlain f y) (qPlain f z)
noncomputable def qNil (x : AV) : (Option ρ) := onPRL x (obind (p1 (sem .nilchk c [x] b s)) f) (fun o i => f (.ptr o i)) (fun cs => f (.ro cs)) (fun i j => f (.loc i j))
noncomputable def qFad (d : Nat) (x : AV) : (Option ρ) := onPRL x none (fun o i => natK (Nat.add i d) fun i => f (.ptr o i)) (fun cs => f (.ro (dropF d cs))) (fun o i => natK (Nat.add i d) fun i => f (.loc o i))
noncomputable def qTake (ag : Bool) (n : Nat) (cs : List AV) : (Option ρ) := cB ag (cB (Nat.ble n (lenF cs)) (takeK n cs fun r => mapW r fun r => f (.agg r)) none) (headO cs none fun x => w1K x f)
noncomputable def cellsO (x : Obj) (k : List AV → (Option ρ)) : (Option ρ) := Obj.rec (motive := fun _ => (Option ρ)) k (fun _ => none) none x
noncomputable def qLdSt (ag : Bool) (n : Nat) (x : AV) : (Option ρ) := onP x none fun o i => nthQ s none (fun ob => cellsO ob fun cs => qTake f ag n (dropF i cs)) o
noncomputable def qLdRo (ag : Bool) (n : Nat) (x : AV) : (Option ρ) := onR x none fun cs => qTake f ag n cs
noncomputable def qLdLc (i : Nat) (ag : Bool) (n : Nat) (x : AV) : (Option ρ) := onLc x none fun j off => onBx b none fun cs => cB (Nat.beq i j) (qTake f ag n (dropF off cs)) none
noncomputable def qLenS (x : AV) : (Option ρ) := onS x none fun l => natK (lenF l) fun n => f (.int .i64 (.ofNat n))
noncomputable def qLenL (x : AV) : (Option ρ) := onL x (obind (p1 (sem .lenL c [x] b s)) f) fun l => natK (lenF l) fun n => f (.int .i64 (.ofNat n))
noncomputable def qIdx (x y : AV) : (Option ρ) := onS x none fun l => onI y none fun _ n => Int.rec (motive := fun _ => (Option ρ)) (fun i => atO l none (fun m => f (.int .u8 (.ofNat m))) i) (fun _ => none) n
noncomputable def qIad (sz : Nat) (x y : AV) : (Option ρ) := onL x (obind (p1 (sem (.iad sz) c [x, y] b s)) f) fun l => onI y none fun _ n => Int.rec (motive := fun _ => (Option ρ)) (fun i => atO l none (fun r => cB (Nat.beq (lenF r) sz) (f (.ro r)) none) i) (fun _ => none) n
end

section
variable (c : CallT) (b : AV) (s : St) (f : AV → (Option ρ))
theorem qEql_eq (x y : AV) : qEql f x y = obind (p1 (sem (.bin .eql) c [x, y] b s)) f := by
 simp only [qEql, onIS_eq, onI_eq, onS_eq, cB_eq, bo_eq, nn_eq, eqF_eq, kIx_eq, sem, semBin]
 cases x <;> cases y <;> try rfl
 · rename_i t m u n
   by_cases h : t = u
   · subst h
     cases m <;> cases n <;> simp [binA, p1, obind, eqI]
   · simp [binA, h, p1, obind]
theorem qNeq_eq (x y : AV) : qNeq f x y = obind (p1 (sem (.bin .neq) c [x, y] b s)) f := by
 simp only [qNeq, onIS_eq, onI_eq, onS_eq, cB_eq, bo_eq, nn_eq, eqF_eq, kIx_eq, sem, semBin]
 cases x <;> cases y <;> try rfl
 · rename_i t m u n
   by_cases h : t = u
   · subst h
     cases m <;> cases n <;> simp [binA, p1, obind, eqI]
     rename_i m n
     by_cases h : m = n
     · subst h; simp
     · have e : Nat.beq m n = false := Bool.eq_false_iff.mpr (fun q => h (Nat.eq_of_beq_eq_true q))
       simp [e, h]
   · simp [binA, h, p1, obind]
 · rename_i l r
   simp only [binA, Option.map_some, p1, obind]
   cases eqN l r <;> rfl
theorem cmp_none {op : BinOp} (ho : op = .lss ∨ op = .leq ∨ op = .gtr ∨ op = .geq) (t : IntKind) (m : Int) (y : AV) (hy : ∀ u n, y ≠ .int u n) : binA op (.int t m) y = none := by
 cases y <;> first | (exfalso; exact hy _ _ rfl) | (rcases ho with rfl | rfl | rfl | rfl <;> rfl)
theorem cmp_ne {op : BinOp} (ho : op = .lss ∨ op = .leq ∨ op = .gtr ∨ op = .geq) {t u : IntKind} (h : t ≠ u) (m n : Int) : binA op (.int t m) (.int u n) = none := by
 rcases ho with rfl | rfl | rfl | rfl <;> simp [binA, h]
theorem qCmp_eq (op : BinOp) (g : Nat → Nat → Bool) (ho : op = .lss ∨ op = .leq ∨ op = .gtr ∨ op = .geq) (hg : ∀ (t : IntKind) (i j : Nat), binA op (.int t (.ofNat i)) (.int t (.ofNat j)) = some (.bool (g i j))) (x y : AV) : qCmp c b s f op g x y = obind (p1 (sem (.bin op) c [x, y] b s)) f := by
 simp only [qCmp, onI_eq, cB_eq, bo_eq, nn_eq, kIx_eq]
 cases x <;> try rfl
 rename_i t m
 cases y
 case int u n =>
  simp only
  by_cases h : t = u
  · subst h
    simp only [decide_true, if_true]
    cases m <;> cases n <;> try rfl
    rename_i i j
    simp only [sem, semBin, hg, Option.map_some, p1, obind]
  · simp only [h, decide_false, Bool.false_eq_true, if_false, sem, semBin, cmp_ne ho h, Option.map_none, p1, obind]
 all_goals (simp only [sem, semBin]; rw [cmp_none ho _ _ _ (by simp)]; rfl)
theorem wrap_small (t : IntKind) {r : Nat} (h : r < 128) : wrapA t (Int.ofNat r) = Int.ofNat r := by
 rw [wrapA_eq]
 cases t <;> simp [IntKind.wrap, IntKind.signed, IntKind.bits] <;> omega
theorem wrap_i64s {r : Nat} (h : r < 9223372036854775808) : wrapA .i64 (Int.ofNat r) = Int.ofNat r := by
 simp only [wrapA]
 rw [if_pos (by simpa using h)]
theorem kIx_3 (t : IntKind) : Nat.beq (kIx t) 3 = true → t = .i64 := by cases t <;> decide
theorem arith_none {op : BinOp} (ho : op = .add ∨ op = .sub) (t : IntKind) (m : Int) (y : AV) (hy : ∀ u n, y ≠ .int u n) : binA op (.int t m) y = none := by
 cases y <;> first | (exfalso; exact hy _ _ rfl) | (rcases ho with rfl | rfl <;> rfl)
theorem qAdd_eq (x y : AV) : qAdd c b s f x y = obind (p1 (sem (.bin .add) c [x, y] b s)) f := by
 simp only [qAdd, onI_eq, cB_eq, bo_eq, nn_eq, kIx_eq, natK_eq]
 cases x <;> try rfl
 rename_i t m
 cases y
 case int u n =>
  simp only
  by_cases h : t = u
  · subst h
    simp only [decide_true, if_true]
    cases m <;> cases n <;> try rfl
    rename_i i j
    dsimp only
    have e : ∀ r, Nat.add i j = r → wrapA t (Int.ofNat r) = Int.ofNat r → f (.int t (.ofNat r)) = obind (p1 (sem (.bin .add) c [.int t (.ofNat i), .int t (.ofNat j)] b s)) f := fun r hr hw => by
     subst hr
     simp only [sem, semBin, binA, if_true, addI, hw, Option.map_some, p1, obind]
    split
    · rename_i hl
      exact e _ rfl (wrap_small t (by simpa using hl))
    · split
      · rename_i hk
        have := kIx_3 t hk
        subst this
        split
        · rename_i hl
          exact e _ rfl (wrap_i64s (by simpa using hl))
        · rfl
      · rfl
  · simp only [h, decide_false, Bool.false_eq_true, if_false, sem, semBin, binA, Option.map_none, p1, obind]
 all_goals (simp only [sem, semBin]; rw [arith_none (.inl rfl) _ _ _ (by simp)]; rfl)
theorem qSub_eq (x y : AV) : qSub c b s f x y = obind (p1 (sem (.bin .sub) c [x, y] b s)) f := by
 simp only [qSub, onI_eq, cB_eq, bo_eq, nn_eq, kIx_eq, natK_eq]
 cases x <;> try rfl
 rename_i t m
 cases y
 case int u n =>
  simp only
  by_cases h : t = u
  · subst h
    simp only [decide_true, if_true]
    cases m <;> cases n <;> try rfl
    rename_i i j
    dsimp only
    split
    · rename_i hle
      have e : ∀ r, Nat.sub i j = r → wrapA t (Int.ofNat r) = Int.ofNat r → f (.int t (.ofNat r)) = obind (p1 (sem (.bin .sub) c [.int t (.ofNat i), .int t (.ofNat j)] b s)) f := fun r hr hw => by
       subst hr
       simp only [sem, semBin, binA, if_true, subI, hle, hw, Option.map_some, p1, obind]
      split
      · rename_i hl
        exact e _ rfl (wrap_small t (by simpa using hl))
      · split
        · rename_i hk
          have := kIx_3 t hk
          subst this
          split
          · rename_i hl
            exact e _ rfl (wrap_i64s (by simpa using hl))
          · rfl
        · rfl
    · rfl
  · simp only [h, decide_false, Bool.false_eq_true, if_false, sem, semBin, binA, Option.map_none, p1, obind]
 all_goals (simp only [sem, semBin]; rw [arith_none (.inr rfl) _ _ _ (by simp)]; rfl)
theorem qNot_eq (x : AV) : qNot f x = obind (p1 (sem (.un .not) c [x] b s)) f := by
 simp only [qNot, onB_eq, cB_eq, sem]
 cases x <;> try rfl
 rename_i y; cases y <;> rfl
theorem qPick_eq (x y z : AV) : qPick f x y z = obind (p1 (sem .pick c [x, y, z] b s)) f := by
 simp only [qPick, qPlain, onB_eq, cB_eq, sem]
 cases x <;> try rfl
 rename_i v
 cases v
 · simp only [semPick, Bool.false_eq_true, if_false]; split <;> rfl
 · simp only [semPick, if_true]; split <;> rfl
theorem qNil_eq (x : AV) : qNil c b s f x = obind (p1 (sem .nilchk c [x] b s)) f := by
 simp only [qNil, onPRL_eq]
 cases x <;> rfl
theorem qFad_eq (d : Nat) (x : AV) : qFad f d x = obind (p1 (sem (.fad d) c [x] b s)) f := by
 simp only [qFad, onPRL_eq, natK_eq, dropF_eq]
 cases x <;> rfl
theorem qTake_eq (ag : Bool) (n : Nat) (cs : List AV) : qTake f ag n cs = match takeVal ag n cs with | some v => f v | none => none := by
 simp only [qTake, cB_eq, headO_eq, lenF_eq, takeK_eq, mapW_eq, w1K_eq]
 cases ag
 · cases cs <;> rfl
 · simp only [takeVal, if_true]
   by_cases h : n ≤ cs.length
   · have e : Nat.ble n cs.length = true := by simpa using h
     simp only [e, h, if_true]
   · have e : Nat.ble n cs.length = false := Bool.eq_false_iff.mpr (fun q => h (Nat.le_of_ble_eq_true q))
     simp only [e, h, Bool.false_eq_true, if_false]
theorem cellsO_eq (x : Obj) (k : List AV → (Option ρ)) : cellsO x k = match x with | .cells cs => k cs | _ => none := by cases x <;> rfl
theorem map_p1 {x : Option AV} : obind (p1 (x.map fun v => (v, b, s))) f = match x with | some v => f v | none => none := by cases x <;> rfl
theorem qLdSt_eq (ag : Bool) (n : Nat) (x : AV) : qLdSt s f ag n x = obind (p1 (sem (.ldSt ag n) c [x] b s)) f := by
 simp only [qLdSt, onP_eq, nthQ_eq, cellsO_eq, qTake_eq, dropF_eq]
 cases x <;> try rfl
 rename_i o i
 simp only [sem, semLdSt]
 cases s[o]? with
 | none => rfl
 | some ob => cases ob <;> first | rfl | exact (map_p1 b s f).symm
theorem qLdRo_eq (ag : Bool) (n : Nat) (x : AV) : qLdRo f ag n x = obind (p1 (sem (.ldRo ag n) c [x] b s)) f := by
 simp only [qLdRo, onR_eq, qTake_eq]
 cases x <;> try rfl
 exact (map_p1 b s f).symm
theorem qLdLc_eq (i : Nat) (ag : Bool) (n : Nat) (x : AV) : qLdLc b f i ag n x = obind (p1 (sem (.ldLc i ag n) c [x] b s)) f := by
 simp only [qLdLc, onLc_eq, onBx_eq, qTake_eq, dropF_eq, cB_eq]
 cases x <;> try rfl
 rename_i j off
 cases b <;> try rfl
 rename_i cs
 simp only [sem, semLdLc]
 by_cases h : i = j
 · simp only [h, Nat.beq_refl, if_true]
   exact (map_p1 _ s f).symm
 · have : Nat.beq i j = false := Bool.eq_false_iff.mpr (fun q => h (Nat.eq_of_beq_eq_true q))
   simp only [this, h, Bool.false_eq_true, if_false]
   rfl
theorem qLenS_eq (x : AV) : qLenS f x = obind (p1 (sem .lenS c [x] b s)) f := by
 simp only [qLenS, onS_eq, natK_eq, lenF_eq]
 cases x <;> rfl
theorem qLenL_eq (x : AV) : qLenL c b s f x = obind (p1 (sem .lenL c [x] b s)) f := by
 simp only [qLenL, onL_eq, natK_eq, lenF_eq]
 cases x <;> rfl
theorem qIdx_eq (x y : AV) : qIdx f x y = obind (p1 (sem .idxS c [x, y] b s)) f := by
 simp only [qIdx, onS_eq, onI_eq, atO_eq]
 cases x <;> try rfl
 cases y <;> try rfl
 rename_i l k n
 simp only [sem, semIdxS]
 cases n with
 | ofNat i =>
  have e : (Int.ofNat i).toNat = i := rfl
  simp only [Int.ofNat_eq_natCast, Int.natCast_nonneg, if_true, Int.toNat_natCast]
  cases l[i]? <;> rfl
 | negSucc i => rfl
theorem qIad_eq (sz : Nat) (x y : AV) : qIad c b s f sz x y = obind (p1 (sem (.iad sz) c [x, y] b s)) f := by
 simp only [qIad, onL_eq, onI_eq, atO_eq, cB_eq, lenF_eq]
 cases x <;> try rfl
 cases y <;> try rfl
 rename_i w l k n
 simp only [sem, semIad]
 cases n with
 | ofNat i =>
  simp only [Int.ofNat_eq_natCast, Int.natCast_nonneg, if_true, Int.toNat_natCast]
  cases l[i]? with
  | none => rfl
  | some r =>
   by_cases h : r.length = sz
   · have : Nat.beq r.length sz = true := by rw [h]; exact Nat.beq_refl sz
     simp only [this, if_true, if_pos h]
     rfl
   · have : Nat.beq r.length sz = false := Bool.eq_false_iff.mpr (fun q => h (Nat.eq_of_beq_eq_true q))
     simp only [this, h, Bool.false_eq_true, if_false]
     rfl
 | negSucc i => rfl
end
noncomputable def qSb (x : AV) (k : AV → AV → (Option ρ)) : (Option ρ) := AV.rec (motive_1 := fun _ => (Option ρ)) (motive_2 := fun _ => Unit) (motive_3 := fun _ => Unit)
 (k .undef .undef)
 (fun b => k (.bool b) (.bool b))
 (fun t n => k (.int t n) (.int t n))
 (fun s => k (.str s) (.str s))
 (fun o xs _ => k (.list o xs) (.list false xs))
 (fun o f => k (.ptr o f) (.ptr o f))
 (k .nilp .nilp)
 (fun cs _ => k (.ro cs) (.ro cs))
 (fun i f => k (.loc i f) (.loc i f))
 (fun cs _ => k .undef .undef)
 (fun o => k (.map o) (.map o))
 (k .nilm .nilm)
 (fun f a c _ _ => k (.func f a c) (.func f a c))
 (k .nilf .nilf)
 (fun cs _ => k (.agg cs) (.agg (cs.map AV.weak1)))
 (fun vs _ => k (.tuple vs) (.tuple vs))
 (fun t v _ => k (.iface t v) (.iface t v))
 (k .nili .nili)
 (fun o f n s => k (.sl o f n s) (.sl o f n s))
 (fun xs _ => k (.fresh xs) (.fresh xs))
 () (fun _ _ _ _ => ()) () (fun _ _ _ _ => ()) x
noncomputable def qSv (x : AV) (k : AV → AV → (Option ρ)) : (Option ρ) := AV.rec (motive_1 := fun _ => (Option ρ)) (motive_2 := fun _ => Unit) (motive_3 := fun _ => Unit)
 (k .undef .undef)
 (fun b => k (.bool b) (.bool b))
 (fun t n => k (.int t n) (.int t n))
 (fun s => k (.str s) (.str s))
 (fun o xs _ => k (.list o xs) (.list false xs))
 (fun o f => k (.ptr o f) (.ptr o f))
 (k .nilp .nilp)
 (fun cs _ => k (.ro cs) (.ro cs))
 (fun i f => k .undef .undef)
 (fun cs _ => k .undef .undef)
 (fun o => k (.map o) (.map o))
 (k .nilm .nilm)
 (fun f a c _ _ => k (.func f a c) (.func f a c))
 (k .nilf .nilf)
 (fun cs _ => k (.agg cs) (.agg (cs.map AV.weak1)))
 (fun vs _ => k (.tuple vs) (.tuple vs))
 (fun t v _ => k (.iface t v) (.iface t v))
 (k .nili .nili)
 (fun o f n s => k (.sl o f n s) (.sl o f n s))
 (fun xs _ => k (.fresh xs) (.fresh xs))
 () (fun _ _ _ _ => ()) () (fun _ _ _ _ => ()) x
noncomputable def qWk (x : AV) (k : AV → (Option ρ)) : (Option ρ) := AV.rec (motive_1 := fun _ => (Option ρ)) (motive_2 := fun _ => Unit) (motive_3 := fun _ => Unit)
 (k .undef)
 (fun b => k (.bool b))
 (fun t n => k (.int t n))
 (fun s => k (.str s))
 (fun o xs _ => k (.list false xs))
 (fun o f => k (.ptr o f))
 (k .nilp)
 (fun cs _ => k (.ro cs))
 (fun i f => k (.loc i f))
 (fun cs _ => k (.box cs))
 (fun o => k (.map o))
 (k .nilm)
 (fun f a c _ _ => k (.func f a c))
 (k .nilf)
 (fun cs _ => k (.agg (cs.map AV.weak1)))
 (fun vs _ => k (.tuple vs))
 (fun t v _ => k (.iface t v))
 (k .nili)
 (fun o f n s => k (.sl o f n s))
 (fun xs _ => k (.fresh xs))
 () (fun _ _ _ _ => ()) () (fun _ _ _ _ => ()) x
theorem qSb_eq (x : AV) (k : AV → AV → (Option ρ)) : qSb x k = k (AV.stripB x) (AV.weak (AV.stripB x)) := by cases x <;> rfl
theorem qSv_eq (x : AV) (k : AV → AV → (Option ρ)) : qSv x k = k (AV.strip x) (AV.weak (AV.strip x)) := by cases x <;> rfl
theorem qWk_eq (x : AV) (k : AV → (Option ρ)) : qWk x k = k (AV.weak x) := by cases x <;> rfl
noncomputable def onT (x : AV) (k : List AV → (Option ρ)) : (Option ρ) := AV.rec (motive_1 := fun _ => (Option ρ)) (motive_2 := fun _ => Unit) (motive_3 := fun _ => Unit)
 (none)
 (fun b => none)
 (fun t n => none)
 (fun s => none)
 (fun o xs _ => none)
 (fun o f => none)
 (none)
 (fun cs _ => none)
 (fun i f => none)
 (fun cs _ => none)
 (fun o => none)
 (none)
 (fun f a c _ _ => none)
 (none)
 (fun cs _ => none)
 (fun vs _ => k vs)
 (fun t v _ => none)
 (none)
 (fun o f n s => none)
 (fun xs _ => none)
 () (fun _ _ _ _ => ()) () (fun _ _ _ _ => ()) x
theorem onT_eq (x : AV) (k : List AV → (Option ρ)) : onT x k = match x with | .tuple vs => k vs | _ => none := by cases x <;> rfl
noncomputable def onLo (x : AV) (e : (Option ρ)) (k : Bool → List (List AV) → (Option ρ)) : (Option ρ) := AV.rec (motive_1 := fun _ => (Option ρ)) (motive_2 := fun _ => Unit) (motive_3 := fun _ => Unit)
 (e)
 (fun b => e)
 (fun t n => e)
 (fun s => e)
 (fun o xs _ => k o xs)
 (fun o f => e)
 (e)
 (fun cs _ => e)
 (fun i f => e)
 (fun cs _ => e)
 (fun o => e)
 (e)
 (fun f a c _ _ => e)
 (e)
 (fun cs _ => e)
 (fun vs _ => e)
 (fun t v _ => e)
 (e)
 (fun o f n s => e)
 (fun xs _ => e)
 () (fun _ _ _ _ => ()) () (fun _ _ _ _ => ()) x
theorem onLo_eq (x : AV) (e : (Option ρ)) (k : Bool → List (List AV) → (Option ρ)) : onLo x e k = match x with | .list o xs => k o xs | _ => e := by cases x <;> rfl
noncomputable def onU (x : AV) (k : (Option ρ)) : (Option ρ) := AV.rec (motive_1 := fun _ => (Option ρ)) (motive_2 := fun _ => Unit) (motive_3 := fun _ => Unit)
 (k)
 (fun b => none)
 (fun t n => none)
 (fun s => none)
 (fun o xs _ => none)
 (fun o f => none)
 (none)
 (fun cs _ => none)
 (fun i f => none)
 (fun cs _ => none)
 (fun o => none)
 (none)
 (fun f a c _ _ => none)
 (none)
 (fun cs _ => none)
 (fun vs _ => none)
 (fun t v _ => none)
 (none)
 (fun o f n s => none)
 (fun xs _ => none)
 () (fun _ _ _ _ => ()) () (fun _ _ _ _ => ()) x
theorem onU_eq (x : AV) (k : (Option ρ)) : onU x k = match x with | .undef => k | _ => none := by cases x <;> rfl
noncomputable def onC (x : AV) (k : List AV → (Option ρ)) : (Option ρ) := AV.rec (motive_1 := fun _ => (Option ρ)) (motive_2 := fun _ => Unit) (motive_3 := fun _ => Unit)
 (k [.undef])
 (fun b => k [(.bool b)])
 (fun t n => k [(.int t n)])
 (fun s => k [(.str s)])
 (fun o xs _ => k [(.list o xs)])
 (fun o f => k [(.ptr o f)])
 (k [.nilp])
 (fun cs _ => k [(.ro cs)])
 (fun i f => k [(.loc i f)])
 (fun cs _ => k [(.box cs)])
 (fun o => k [(.map o)])
 (k [.nilm])
 (fun f a c _ _ => k [(.func f a c)])
 (k [.nilf])
 (fun cs _ => k cs)
 (fun vs _ => k [(.tuple vs)])
 (fun t v _ => k [(.iface t v)])
 (k [.nili])
 (fun o f n s => k [(.sl o f n s)])
 (fun xs _ => k [(.fresh xs)])
 () (fun _ _ _ _ => ()) () (fun _ _ _ _ => ()) x
theorem onC_eq (x : AV) (k : List AV → (Option ρ)) : onC x k = k x.cells := by cases x <;> rfl
noncomputable def plB (x : AV) (k : (Option ρ)) : (Option ρ) := AV.rec (motive_1 := fun _ => (Option ρ)) (motive_2 := fun _ => Unit) (motive_3 := fun _ => Unit)
 (none)
 (fun b => k)
 (fun t n => k)
 (fun s => k)
 (fun o xs _ => k)
 (fun o f => k)
 (k)
 (fun cs _ => k)
 (fun i f => none)
 (fun cs _ => none)
 (fun o => k)
 (k)
 (fun f a c _ _ => k)
 (k)
 (fun cs _ => k)
 (fun vs _ => none)
 (fun t v _ => k)
 (k)
 (fun o f n s => k)
 (fun xs _ => none)
 () (fun _ _ _ _ => ()) () (fun _ _ _ _ => ()) x
theorem plB_eq (x : AV) (k : (Option ρ)) : plB x k = if x.plain then k else none := by cases x <;> rfl
noncomputable def qExt (f : AV → (Option ρ)) (d : Nat) (x : AV) : (Option ρ) := onT x fun vs => nthO vs none (fun v => qWk v f) d
theorem qExt_eq (c : CallT) (b : AV) (s : St) (f : AV → (Option ρ)) (d : Nat) (x : AV) : qExt f d x = obind (p1 (sem (.ext d) c [x] b s)) f := by
 simp only [qExt, onT_eq, nthO_eq, qWk_eq]
 cases x <;> try rfl
 rename_i vs
 simp only [sem, semExt]
 cases vs[d]? <;> rfl
noncomputable def plainL (xs : List AV) (k : List AV → (Option ρ)) : (Option ρ) := List.rec (motive := fun _ => (List AV → (Option ρ)) → (Option ρ)) (fun k => k []) (fun a _ ih k => plB a (qWk a fun w => ih fun ws => k (w :: ws))) xs k
theorem plainL_eq : ∀ (xs : List AV) (k : List AV → (Option ρ)), plainL xs k = if allPlain xs then k (xs.map AV.weak) else none
 | [], k => rfl
 | a :: xs, k => by
  show plB a (qWk a fun w => plainL xs fun ws => k (w :: ws)) = _
  rw [plB_eq, qWk_eq, plainL_eq xs]
  simp only [allPlain, Bool.and_eq_true, List.map_cons]
  by_cases h1 : a.plain = true <;> by_cases h2 : allPlain xs = true <;> simp [h1, h2]
noncomputable def onR2 (x : Option (AV × St)) (k : AV → St → (Option ρ)) : (Option ρ) := Option.rec (motive := fun _ => (Option ρ)) none (fun p => Prod.rec (motive := fun _ => (Option ρ)) (fun v s => k v s) p) x
theorem onR2_eq (x : Option (AV × St)) (k : AV → St → (Option ρ)) : onR2 x k = match x with | some (v, s) => k v s | none => none := by cases x <;> rfl
noncomputable def qSlS (c : CallT) (b : AV) (s : St) (f : AV → (Option ρ)) (x y z : AV) : (Option ρ) := onS x none fun l => onI z none fun _ m => onI y (obind (p1 (sem (.slS true true) c [x, y, z] b s)) f) fun _ i => nn i m (obind (p1 (sem (.slS true true) c [x, y, z] b s)) f) fun i m =>
 cB (Nat.ble m (lenF l)) (cB (Nat.ble i m) (takeK (Nat.sub m i) (dropC i l) fun r => f (.str r)) none) none
theorem qSlS_eq (c : CallT) (b : AV) (s : St) (f : AV → (Option ρ)) (x y z : AV) : qSlS c b s f x y z = obind (p1 (sem (.slS true true) c [x, y, z] b s)) f := by
 simp only [qSlS, onS_eq, onI_eq, nn_eq, cB_eq, takeK_eq, dropC_eq, lenF_eq]
 cases x <;> try rfl
 cases z <;> try rfl
 cases y <;> try rfl
 rename_i l _ m _ i
 cases i <;> cases m <;> try rfl
 rename_i i m
 simp only [sem, semSlS, bounds, bound, Int.ofNat_eq_natCast, Int.natCast_nonneg, true_and, Int.toNat_natCast, Int.ofNat_le, Nat.ble_eq]
 by_cases h1 : m ≤ l.length
 · simp only [h1, if_true]
   by_cases h2 : i ≤ m
   · simp only [h2, if_true, Option.map_some, p1, obind]
     rw [List.drop_take]
     rfl
   · simp only [h2, if_false]
     rfl
 · simp only [h1, if_false]
   rfl
noncomputable def rowsQ (sz : Nat) (l : List (List AV)) : Bool := List.rec (motive := fun _ => Bool) true (fun r _ _ => Nat.beq (lenF r) sz) l
theorem rowsQ_eq (sz : Nat) (l : List (List AV)) : rowsQ sz l = rowsOk sz l := by
 cases l with
 | nil => rfl
 | cons r l =>
  show Nat.beq (lenF r) sz = (r.length == sz)
  rw [lenF_eq, Bool.eq_iff_iff]
  simp
noncomputable def qApp (b : AV) (s : St) (f : AV × AV × St → (Option ρ)) (d e : Nat) (x y : AV) : (Option ρ) := onLo x none fun o xs => onL y none fun ys => cB o (cB (rowsQ d xs) (cB (rowsQ d ys) (cB (Nat.ble (Nat.mul (Nat.add (lenF xs) (lenF ys)) e) 140737488355328) (appK xs ys fun r => f (.list true r, b, s)) none) none) none) none
theorem qApp_eq (c : CallT) (b : AV) (s : St) (f : AV × AV × St → (Option ρ)) (d e : Nat) (x y : AV) : qApp b s f d e x y = obind (sem (.app d e) c [x, y] b s) f := by
 simp only [qApp, onLo_eq, onL_eq, cB_eq, rowsQ_eq, lenF_eq, appK_eq]
 cases x <;> try rfl
 rename_i o xs
 cases y <;> try (cases o <;> rfl)
 rename_i o2 ys
 cases o <;> try rfl
 simp only [sem, semApp, if_true]
 have e1 : (Nat.ble (Nat.mul (Nat.add xs.length ys.length) e) 140737488355328) = decide ((xs.length + ys.length) * e ≤ 2 ^ 47) := by
  rw [Bool.eq_iff_iff]
  simp
 rw [e1]
 cases rowsOk d xs <;> cases rowsOk d ys <;> try rfl
 simp only [Bool.true_and, if_true]
 split <;> rfl
noncomputable def qAlloc (b : AV) (s : St) (f : AV × AV × St → (Option ρ)) (d : List AV) : (Option ρ) := onU b (f (.undef, .box d, s))
theorem qAlloc_eq (c : CallT) (b : AV) (s : St) (f : AV × AV × St → (Option ρ)) (d : List AV) : qAlloc b s f d = obind (sem (.alloc d) c [] b s) f := by
 simp only [qAlloc, onU_eq]
 cases b <;> rfl
noncomputable def segK (cs : List AV) (off : Nat) (new : List AV) (k : List AV → (Option ρ)) : (Option ρ) := takeK off cs fun a => appK new (dropF (Nat.add off (lenF new)) cs) fun t => appK a t k
theorem segK_eq (cs : List AV) (off : Nat) (new : List AV) (k : List AV → (Option ρ)) : segK cs off new k = k (setSeg cs off new) := by
 simp only [segK, takeK_eq, appK_eq, dropF_eq, lenF_eq, setSeg, List.append_assoc]
 rfl
noncomputable def qStLc (b : AV) (s : St) (f : AV × AV × St → (Option ρ)) (i d : Nat) (x y : AV) : (Option ρ) := onLc x none fun j off => onBx b none fun cs => cB (Nat.beq i j) (plB y (onC y fun new => cB (Nat.beq (lenF new) d) (cB (Nat.ble (Nat.add off d) (lenF cs)) (segK cs off new fun r => f (.tuple [], .box r, s)) none) none)) none
theorem beq_d (a b : Nat) : (Nat.beq a b = true) = (a = b) := by simp
theorem ble_d (a b : Nat) : (Nat.ble a b = true) = (a ≤ b) := by simp
theorem qStLc_eq (c : CallT) (b : AV) (s : St) (f : AV × AV × St → (Option ρ)) (i d : Nat) (x y : AV) : qStLc b s f i d x y = obind (sem (.stLc i d) c [x, y] b s) f := by
 simp only [qStLc, onLc_eq, onBx_eq, cB_eq, plB_eq, onC_eq, lenF_eq, segK_eq, beq_d, ble_d]
 cases x <;> try rfl
 rename_i j off
 cases b <;> try rfl
 rename_i cs
 simp only [sem, semStLc]
 by_cases h1 : i = j <;> by_cases h2 : y.plain = true <;> by_cases h3 : y.cells.length = d <;> by_cases h4 : off + d ≤ cs.length <;> simp [h1, h2, h3, h4, obind]
noncomputable def setK {β : Type} (l : List β) (i : Nat) (x : β) (k : List β → (Option ρ)) : (Option ρ) := List.rec (motive := fun _ => Nat → (List β → (Option ρ)) → (Option ρ)) (fun _ k => k []) (fun a t ih i k => Nat.rec (motive := fun _ => (Option ρ)) (k (x :: t)) (fun j _ => ih j fun r => k (a :: r)) i) l i k
theorem setK_eq {β : Type} (x : β) : ∀ (l : List β) (i : Nat) (k : List β → (Option ρ)), setK l i x k = k (l.set i x)
 | [], _, _ => rfl
 | a :: l, 0, k => rfl
 | a :: l, i + 1, k => setK_eq x l i fun r => k (a :: r)
noncomputable def setQ {β : Type} (l : List β) (i : Nat) (x : β) (k : List β → (Option ρ)) : (Option ρ) := Nat.rec (motive := fun _ => List β → (List β → (Option ρ)) → (Option ρ)) (fun l k => setK l (Nat.mod i 8) x k) (fun _ ih l k => set8 l (k l) ih k) (Nat.div i 8) l k
theorem setQ_go {β : Type} (x : β) (r : Nat) : ∀ (q : Nat) (l : List β) (k : List β → (Option ρ)), Nat.rec (motive := fun _ => List β → (List β → (Option ρ)) → (Option ρ)) (fun l k => setK l r x k) (fun _ ih l k => set8 l (k l) ih k) q l k = k (l.set (8 * q + r) x)
 | 0, l, k => by show setK l r x k = _; rw [setK_eq, Nat.mul_zero, Nat.zero_add]
 | q + 1, l, k => by
  show set8 l (k l) (fun l k => Nat.rec (motive := fun _ => List β → (List β → (Option ρ)) → (Option ρ)) (fun l k => setK l r x k) (fun _ ih l k => set8 l (k l) ih k) q l k) k = _
  rw [set8_eq]
  split
  · rename_i h
    rw [setQ_go x r q (l.drop 8)]
    congr 1
    rw [show 8 * (q + 1) + r = 8 + (8 * q + r) by omega]
    conv => rhs; rw [← List.take_append_drop 8 l]
    rw [List.set_append_right _ _ (by rw [List.length_take]; omega), List.length_take, Nat.min_eq_left h, Nat.add_sub_cancel_left]
  · rename_i h
    rw [List.set_eq_of_length_le (by omega)]
theorem setQ_eq {β : Type} (x : β) (l : List β) (i : Nat) (k : List β → (Option ρ)) : setQ l i x k = k (l.set i x) := by
 unfold setQ
 rw [setQ_go x (Nat.mod i 8) (Nat.div i 8) l k, show 8 * Nat.div i 8 + Nat.mod i 8 = i from Nat.div_add_mod i 8]
noncomputable def qStSt (s : St) (f : AV × St → (Option ρ)) (d : Nat) (x y : AV) : (Option ρ) := onP x none fun o off => nthQ s none (fun ob => cellsO ob fun cs => plB y (onC y fun new => cB (Nat.beq (lenF new) d) (cB (Nat.ble (Nat.add off d) (lenF cs)) (segK cs off new fun r => setQ s o (.cells r) fun s => f (.tuple [], s)) none) none)) o
theorem qStSt_eq (c : CallT) (b : AV) (s : St) (f : AV × St → (Option ρ)) (d : Nat) (x y : AV) : qStSt s f d x y = obind (p2 (sem (.stSt d) c [x, y] b s)) f := by
 simp only [qStSt, onP_eq, nthQ_eq, cellsO_eq, cB_eq, plB_eq, onC_eq, lenF_eq, segK_eq, setQ_eq, beq_d, ble_d]
 cases x <;> try rfl
 rename_i o off
 simp only [sem, semStSt, fL_eq]
 cases s[o]? with
 | none => rfl
 | some ob =>
  cases ob <;> try rfl
  rename_i cs
  by_cases h2 : y.plain = true <;> by_cases h3 : y.cells.length = d <;> by_cases h4 : off + d ≤ cs.length <;> simp [h2, h3, h4, obind, p2]
noncomputable def bW (v w : Bool) (x y : (Option ρ)) : (Option ρ) := Bool.rec (motive := fun _ => (Option ρ)) (Bool.rec (motive := fun _ => (Option ρ)) x y w) (Bool.rec (motive := fun _ => (Option ρ)) y x w) v
theorem bW_eq (v w : Bool) (x y : (Option ρ)) : bW v w x y = if v == w then x else y := by cases v <;> cases w <;> rfl
theorem nb (i j : Nat) : (!Nat.blt j i) = Nat.ble i j := by
 have h1 : (Nat.blt j i = true) ↔ j < i := by simp
 have h2 : (Nat.ble i j = true) ↔ i ≤ j := by simp
 cases hb : Nat.blt j i <;> cases hc : Nat.ble i j <;> simp only [hb, hc, true_iff, false_iff, Bool.false_eq_true] at h1 h2 <;> first | rfl | omega
theorem lss_eq (c : CallT) (b : AV) (s : St) (f : AV → (Option ρ)) (x y : AV) : qCmp c b s f .lss Nat.blt x y = obind (p1 (sem (.bin .lss) c [x, y] b s)) f := qCmp_eq c b s f .lss _ (by simp) (fun t i j => by simp [binA, ltI]) x y
theorem leq_eq (c : CallT) (b : AV) (s : St) (f : AV → (Option ρ)) (x y : AV) : qCmp c b s f .leq Nat.ble x y = obind (p1 (sem (.bin .leq) c [x, y] b s)) f := qCmp_eq c b s f .leq _ (by simp) (fun t i j => by simp only [binA, if_true, Int.ofNat_eq_natCast]; rw [show ∀ a b : Nat, ltI (a : Int) (b : Int) = Nat.blt a b from fun _ _ => rfl, nb]) x y
theorem gtr_eq (c : CallT) (b : AV) (s : St) (f : AV → (Option ρ)) (x y : AV) : qCmp c b s f .gtr (fun i j => Nat.blt j i) x y = obind (p1 (sem (.bin .gtr) c [x, y] b s)) f := qCmp_eq c b s f .gtr _ (by simp) (fun t i j => by simp [binA, ltI]) x y
theorem geq_eq (c : CallT) (b : AV) (s : St) (f : AV → (Option ρ)) (x y : AV) : qCmp c b s f .geq (fun i j => Nat.ble j i) x y = obind (p1 (sem (.bin .geq) c [x, y] b s)) f := qCmp_eq c b s f .geq _ (by simp) (fun t i j => by simp only [binA, if_true, Int.ofNat_eq_natCast]; rw [show ∀ a b : Nat, ltI (a : Int) (b : Int) = Nat.blt a b from fun _ _ => rfl, nb]) x y

end Go.Cb.G
/-
 THE ABSTRACT MACHINE, part 43: frames of eight times eight, whose places are found at once.
-/
set_option maxRecDepth 4000
set_option linter.unusedVariables false
namespace Go.Cb.G
open Go Go.Cb
inductive W8 (α : Type) where
 | mk (x0 x1 x2 x3 x4 x5 x6 x7 : α)
abbrev Fr := W8 (W8 AV)
def pk8 {α : Type} (i : Nat) (w : W8 α) : α := match w with
 | .mk x0 x1 x2 x3 x4 x5 x6 x7 => match i with
  | 0 => x0
  | 1 => x1
  | 2 => x2
  | 3 => x3
  | 4 => x4
  | 5 => x5
  | 6 => x6
  | _ => x7
def st8 {α : Type} (i : Nat) (x : α) (w : W8 α) : W8 α := match w with
 | .mk x0 x1 x2 x3 x4 x5 x6 x7 => match i with
  | 0 => .mk x x1 x2 x3 x4 x5 x6 x7
  | 1 => .mk x0 x x2 x3 x4 x5 x6 x7
  | 2 => .mk x0 x1 x x3 x4 x5 x6 x7
  | 3 => .mk x0 x1 x2 x x4 x5 x6 x7
  | 4 => .mk x0 x1 x2 x3 x x5 x6 x7
  | 5 => .mk x0 x1 x2 x3 x4 x x6 x7
  | 6 => .mk x0 x1 x2 x3 x4 x5 x x7
  | _ => .mk x0 x1 x2 x3 x4 x5 x6 x
theorem lt8 {i : Nat} (h : i < 8) : i = 0 ∨ i = 1 ∨ i = 2 ∨ i = 3 ∨ i = 4 ∨ i = 5 ∨ i = 6 ∨ i = 7 := by omega
theorem pk_st8 {α : Type} {i j : Nat} (hi : i < 8) (hj : j < 8) (x : α) (w : W8 α) : pk8 j (st8 i x w) = if j = i then x else pk8 j w := by
 cases w
 rcases lt8 hi with rfl | rfl | rfl | rfl | rfl | rfl | rfl | rfl <;> rcases lt8 hj with rfl | rfl | rfl | rfl | rfl | rfl | rfl | rfl <;> rfl
def frGet (i : Nat) (fr : Fr) : AV := pk8 (i % 8) (pk8 (i / 8) fr)
def frSet (i : Nat) (x : AV) (fr : Fr) : Fr := st8 (i / 8) (st8 (i % 8) x (pk8 (i / 8) fr)) fr
theorem get_set {i j : Nat} (hi : i < 64) (hj : j < 64) (x : AV) (fr : Fr) : frGet j (frSet i x fr) = if j = i then x else frGet j fr := by
 unfold frGet frSet
 rw [pk_st8 (by omega) (by omega)]
 by_cases h : j / 8 = i / 8
 · rw [if_pos h, pk_st8 (by omega) (by omega), ← h]
   by_cases h2 : j % 8 = i % 8
   · rw [if_pos h2, if_pos (by omega)]
   · rw [if_neg h2, if_neg (by omega)]
 · rw [if_neg h, if_neg (by intro e; exact h (by rw [e]))]
def toL (nv : Nat) (fr : Fr) : List AV := (List.range nv).map fun i => frGet i fr
theorem toL_len (nv : Nat) (fr : Fr) : (toL nv fr).length = nv := by simp [toL]
theorem toL_get {i nv : Nat} (h : i < nv) (fr : Fr) : (toL nv fr).getD i .undef = frGet i fr := by simp [toL, List.getD, h]
theorem toL_set {i nv : Nat} (h : i < nv) (hn : nv ≤ 64) (x : AV) (fr : Fr) : (toL nv fr).set i x = toL nv (frSet i x fr) := by
 apply List.ext_getElem
 · simp [toL]
 · intro j h1 h2
   have hj : j < nv := by simpa [toL] using h1
   rw [List.getElem_set]
   simp only [toL, List.getElem_map, List.getElem_range]
   rw [get_set (by omega) (by omega)]
   by_cases e : i = j
   · rw [if_pos e, if_pos e.symm]
   · rw [if_neg e, if_neg (fun q => e q.symm)]
theorem toL_set_out {i nv : Nat} (h : ¬ i < nv) (x : AV) (fr : Fr) : (toL nv fr).set i x = toL nv fr := List.set_eq_of_length_le (by rw [toL_len]; omega)

noncomputable def sel8 {α β : Type} (i : Nat) (e : β) (Q : α → β) (x0 x1 x2 x3 x4 x5 x6 x7 : α) : β :=
 Nat.rec (motive := fun _ => β) (Q x0) (fun i _ => Nat.rec (motive := fun _ => β) (Q x1) (fun i _ => Nat.rec (motive := fun _ => β) (Q x2) (fun i _ => Nat.rec (motive := fun _ => β) (Q x3) (fun i _ => Nat.rec (motive := fun _ => β) (Q x4) (fun i _ => Nat.rec (motive := fun _ => β) (Q x5) (fun i _ => Nat.rec (motive := fun _ => β) (Q x6) (fun i _ => Nat.rec (motive := fun _ => β) (Q x7) (fun i _ => e) i) i) i) i) i) i) i) i
theorem sel8_good {α β : Type} {G : β → Prop} {i : Nat} {e : β} {Q : α → β} {x0 x1 x2 x3 x4 x5 x6 x7 : α} (he : G e) (h0 : i = 0 → G (Q x0)) (h1 : i = 1 → G (Q x1)) (h2 : i = 2 → G (Q x2)) (h3 : i = 3 → G (Q x3)) (h4 : i = 4 → G (Q x4)) (h5 : i = 5 → G (Q x5)) (h6 : i = 6 → G (Q x6)) (h7 : i = 7 → G (Q x7)) : G (sel8 i e Q x0 x1 x2 x3 x4 x5 x6 x7) := by
 match i, h0, h1, h2, h3, h4, h5, h6, h7 with
 | 0, h, _, _, _, _, _, _, _ => exact h rfl
 | 1, _, h, _, _, _, _, _, _ => exact h rfl
 | 2, _, _, h, _, _, _, _, _ => exact h rfl
 | 3, _, _, _, h, _, _, _, _ => exact h rfl
 | 4, _, _, _, _, h, _, _, _ => exact h rfl
 | 5, _, _, _, _, _, h, _, _ => exact h rfl
 | 6, _, _, _, _, _, _, h, _ => exact h rfl
 | 7, _, _, _, _, _, _, _, h => exact h rfl
 | _ + 8, _, _, _, _, _, _, _, _ => exact he
abbrev Gt (ρ : Type) := Fr → (AV → Option ρ) → Option ρ
abbrev Wr (ρ : Type) := AV → Fr → (Fr → Option ρ) → Option ρ
section
variable {ρ β : Type}
noncomputable def getC (i : Nat) (e : β) (Q : Gt ρ → β) : β := sel8 (i / 8) e (fun o : Fr → (W8 AV → Option ρ) → Option ρ => sel8 (i % 8) e (fun n : W8 AV → (AV → Option ρ) → Option ρ => Q fun fr k => o fr fun w => n w k)
 (fun w k => W8.rec (motive := fun _ => Option ρ) (fun x0 x1 x2 x3 x4 x5 x6 x7 => k x0) w)
 (fun w k => W8.rec (motive := fun _ => Option ρ) (fun x0 x1 x2 x3 x4 x5 x6 x7 => k x1) w)
 (fun w k => W8.rec (motive := fun _ => Option ρ) (fun x0 x1 x2 x3 x4 x5 x6 x7 => k x2) w)
 (fun w k => W8.rec (motive := fun _ => Option ρ) (fun x0 x1 x2 x3 x4 x5 x6 x7 => k x3) w)
 (fun w k => W8.rec (motive := fun _ => Option ρ) (fun x0 x1 x2 x3 x4 x5 x6 x7 => k x4) w)
 (fun w k => W8.rec (motive := fun _ => Option ρ) (fun x0 x1 x2 x3 x4 x5 x6 x7 => k x5) w)
 (fun w k => W8.rec (motive := fun _ => Option ρ) (fun x0 x1 x2 x3 x4 x5 x6 x7 => k x6) w)
 (fun w k => W8.rec (motive := fun _ => Option ρ) (fun x0 x1 x2 x3 x4 x5 x6 x7 => k x7) w))
 (fun w k => W8.rec (motive := fun _ => Option ρ) (fun x0 x1 x2 x3 x4 x5 x6 x7 => k x0) w)
 (fun w k => W8.rec (motive := fun _ => Option ρ) (fun x0 x1 x2 x3 x4 x5 x6 x7 => k x1) w)
 (fun w k => W8.rec (motive := fun _ => Option ρ) (fun x0 x1 x2 x3 x4 x5 x6 x7 => k x2) w)
 (fun w k => W8.rec (motive := fun _ => Option ρ) (fun x0 x1 x2 x3 x4 x5 x6 x7 => k x3) w)
 (fun w k => W8.rec (motive := fun _ => Option ρ) (fun x0 x1 x2 x3 x4 x5 x6 x7 => k x4) w)
 (fun w k => W8.rec (motive := fun _ => Option ρ) (fun x0 x1 x2 x3 x4 x5 x6 x7 => k x5) w)
 (fun w k => W8.rec (motive := fun _ => Option ρ) (fun x0 x1 x2 x3 x4 x5 x6 x7 => k x6) w)
 (fun w k => W8.rec (motive := fun _ => Option ρ) (fun x0 x1 x2 x3 x4 x5 x6 x7 => k x7) w)
theorem getC_good {G : β → Prop} {i : Nat} {e : β} {Q : Gt ρ → β} (hi : i < 64) (he : G e) (h : ∀ g : Gt ρ, (∀ fr k, g fr k = k (frGet i fr)) → G (Q g)) : G (getC i e Q) := by
 refine sel8_good he ?_ ?_ ?_ ?_ ?_ ?_ ?_ ?_ <;> intro h1 <;> refine sel8_good he ?_ ?_ ?_ ?_ ?_ ?_ ?_ ?_ <;> intro h2 <;> refine h _ (fun fr k => ?_) <;> unfold frGet <;> rw [h1, h2] <;> cases fr with
  | mk w0 w1 w2 w3 w4 w5 w6 w7 => first | (cases w0; rfl) | (cases w1; rfl) | (cases w2; rfl) | (cases w3; rfl) | (cases w4; rfl) | (cases w5; rfl) | (cases w6; rfl) | (cases w7; rfl)
noncomputable def putC (i : Nat) (e : β) (Q : Wr ρ → β) : β := sel8 (i / 8) e (fun o : Fr → (W8 AV → (W8 AV → Option ρ) → Option ρ) → (Fr → Option ρ) → Option ρ => sel8 (i % 8) e (fun n : AV → W8 AV → (W8 AV → Option ρ) → Option ρ => Q fun x fr k => o fr (n x) k)
 (fun y w k => W8.rec (motive := fun _ => Option ρ) (fun x0 x1 x2 x3 x4 x5 x6 x7 => k (.mk y x1 x2 x3 x4 x5 x6 x7)) w)
 (fun y w k => W8.rec (motive := fun _ => Option ρ) (fun x0 x1 x2 x3 x4 x5 x6 x7 => k (.mk x0 y x2 x3 x4 x5 x6 x7)) w)
 (fun y w k => W8.rec (motive := fun _ => Option ρ) (fun x0 x1 x2 x3 x4 x5 x6 x7 => k (.mk x0 x1 y x3 x4 x5 x6 x7)) w)
 (fun y w k => W8.rec (motive := fun _ => Option ρ) (fun x0 x1 x2 x3 x4 x5 x6 x7 => k (.mk x0 x1 x2 y x4 x5 x6 x7)) w)
 (fun y w k => W8.rec (motive := fun _ => Option ρ) (fun x0 x1 x2 x3 x4 x5 x6 x7 => k (.mk x0 x1 x2 x3 y x5 x6 x7)) w)
 (fun y w k => W8.rec (motive := fun _ => Option ρ) (fun x0 x1 x2 x3 x4 x5 x6 x7 => k (.mk x0 x1 x2 x3 x4 y x6 x7)) w)
 (fun y w k => W8.rec (motive := fun _ => Option ρ) (fun x0 x1 x2 x3 x4 x5 x6 x7 => k (.mk x0 x1 x2 x3 x4 x5 y x7)) w)
 (fun y w k => W8.rec (motive := fun _ => Option ρ) (fun x0 x1 x2 x3 x4 x5 x6 x7 => k (.mk x0 x1 x2 x3 x4 x5 x6 y)) w))
 (fun w u k => W8.rec (motive := fun _ => Option ρ) (fun x0 x1 x2 x3 x4 x5 x6 x7 => u x0 fun y => k (.mk y x1 x2 x3 x4 x5 x6 x7)) w)
 (fun w u k => W8.rec (motive := fun _ => Option ρ) (fun x0 x1 x2 x3 x4 x5 x6 x7 => u x1 fun y => k (.mk x0 y x2 x3 x4 x5 x6 x7)) w)
 (fun w u k => W8.rec (motive := fun _ => Option ρ) (fun x0 x1 x2 x3 x4 x5 x6 x7 => u x2 fun y => k (.mk x0 x1 y x3 x4 x5 x6 x7)) w)
 (fun w u k => W8.rec (motive := fun _ => Option ρ) (fun x0 x1 x2 x3 x4 x5 x6 x7 => u x3 fun y => k (.mk x0 x1 x2 y x4 x5 x6 x7)) w)
 (fun w u k => W8.rec (motive := fun _ => Option ρ) (fun x0 x1 x2 x3 x4 x5 x6 x7 => u x4 fun y => k (.mk x0 x1 x2 x3 y x5 x6 x7)) w)
 (fun w u k => W8.rec (motive := fun _ => Option ρ) (fun x0 x1 x2 x3 x4 x5 x6 x7 => u x5 fun y => k (.mk x0 x1 x2 x3 x4 y x6 x7)) w)
 (fun w u k => W8.rec (motive := fun _ => Option ρ) (fun x0 x1 x2 x3 x4 x5 x6 x7 => u x6 fun y => k (.mk x0 x1 x2 x3 x4 x5 y x7)) w)
 (fun w u k => W8.rec (motive := fun _ => Option ρ) (fun x0 x1 x2 x3 x4 x5 x6 x7 => u x7 fun y => k (.mk x0 x1 x2 x3 x4 x5 x6 y)) w)
theorem putC_good {G : β → Prop} {i : Nat} {e : β} {Q : Wr ρ → β} (hi : i < 64) (he : G e) (h : ∀ g : Wr ρ, (∀ x fr k, g x fr k = k (frSet i x fr)) → G (Q g)) : G (putC i e Q) := by
 refine sel8_good he ?_ ?_ ?_ ?_ ?_ ?_ ?_ ?_ <;> intro h1 <;> refine sel8_good he ?_ ?_ ?_ ?_ ?_ ?_ ?_ ?_ <;> intro h2 <;> refine h _ (fun x fr k => ?_) <;> unfold frSet <;> rw [h1, h2] <;> cases fr with
  | mk w0 w1 w2 w3 w4 w5 w6 w7 => first | (cases w0; rfl) | (cases w1; rfl) | (cases w2; rfl) | (cases w3; rfl) | (cases w4; rfl) | (cases w5; rfl) | (cases w6; rfl) | (cases w7; rfl)
noncomputable def nthC (i : Nat) (Q : (List AV → (AV → Option ρ) → Option ρ) → β) : β := Nat.rec (motive := fun _ => ((List AV → (AV → Option ρ) → Option ρ) → β) → β)
 (fun Q => Q fun l k => List.rec (motive := fun _ => Option ρ) none (fun a _ _ => k a) l)
 (fun _ ih Q => ih fun r => Q fun l k => List.rec (motive := fun _ => Option ρ) none (fun _ t _ => r t k) l) i Q
theorem nthC_good {G : β → Prop} : ∀ (i : Nat) {Q : (List AV → (AV → Option ρ) → Option ρ) → β}, (∀ r : List AV → (AV → Option ρ) → Option ρ, (∀ l k, r l k = match l[i]? with | some a => k a | none => none) → G (Q r)) → G (nthC i Q)
 | 0, Q, h => h _ fun l k => by cases l <;> rfl
 | i + 1, Q, h => nthC_good i fun r hr => h _ fun l k => by
  cases l with
  | nil => rfl
  | cons a t => show r t k = _; rw [hr]; simp
end
abbrev U : AV := .undef
def u8 : W8 AV := .mk U U U U U U U U
noncomputable def argW {ρ : Type} (l : List AV) (k : W8 AV → Option ρ) : Option ρ := List.rec (motive := fun _ => Option ρ) (k (.mk U U U U U U U U)) (fun y0 l _ => List.rec (motive := fun _ => Option ρ) (k (.mk y0 U U U U U U U)) (fun y1 l _ => List.rec (motive := fun _ => Option ρ) (k (.mk y0 y1 U U U U U U)) (fun y2 l _ => List.rec (motive := fun _ => Option ρ) (k (.mk y0 y1 y2 U U U U U)) (fun y3 l _ => List.rec (motive := fun _ => Option ρ) (k (.mk y0 y1 y2 y3 U U U U)) (fun y4 l _ => List.rec (motive := fun _ => Option ρ) (k (.mk y0 y1 y2 y3 y4 U U U)) (fun y5 l _ => List.rec (motive := fun _ => Option ρ) (k (.mk y0 y1 y2 y3 y4 y5 U U)) (fun y6 l _ => List.rec (motive := fun _ => Option ρ) (k (.mk y0 y1 y2 y3 y4 y5 y6 U)) (fun y7 l _ => List.rec (motive := fun _ => Option ρ) (k (.mk y0 y1 y2 y3 y4 y5 y6 y7)) (fun _ _ _ => none) l) l) l) l) l) l) l) l) l
theorem pk_u8 (i : Nat) : pk8 i u8 = U := by
 show (match i with | 0 => U | 1 => U | 2 => U | 3 => U | 4 => U | 5 => U | 6 => U | _ => U) = U
 split <;> rfl
theorem argW_ok {ρ : Type} {l : List AV} {k : W8 AV → Option ρ} {r : ρ} (h : argW l k = some r) : ∃ w : W8 AV, k w = some r ∧ l.length ≤ 8 ∧ ∀ i, i < 8 → pk8 i w = l.getD i .undef := by
 match l, h with
 | [], h => exact ⟨_, h, by simp, fun i hi => by rcases lt8 hi with rfl | rfl | rfl | rfl | rfl | rfl | rfl | rfl <;> rfl⟩
 | [y0], h => exact ⟨_, h, by simp, fun i hi => by rcases lt8 hi with rfl | rfl | rfl | rfl | rfl | rfl | rfl | rfl <;> rfl⟩
 | [y0, y1], h => exact ⟨_, h, by simp, fun i hi => by rcases lt8 hi with rfl | rfl | rfl | rfl | rfl | rfl | rfl | rfl <;> rfl⟩
 | [y0, y1, y2], h => exact ⟨_, h, by simp, fun i hi => by rcases lt8 hi with rfl | rfl | rfl | rfl | rfl | rfl | rfl | rfl <;> rfl⟩
 | [y0, y1, y2, y3], h => exact ⟨_, h, by simp, fun i hi => by rcases lt8 hi with rfl | rfl | rfl | rfl | rfl | rfl | rfl | rfl <;> rfl⟩
 | [y0, y1, y2, y3, y4], h => exact ⟨_, h, by simp, fun i hi => by rcases lt8 hi with rfl | rfl | rfl | rfl | rfl | rfl | rfl | rfl <;> rfl⟩
 | [y0, y1, y2, y3, y4, y5], h => exact ⟨_, h, by simp, fun i hi => by rcases lt8 hi with rfl | rfl | rfl | rfl | rfl | rfl | rfl | rfl <;> rfl⟩
 | [y0, y1, y2, y3, y4, y5, y6], h => exact ⟨_, h, by simp, fun i hi => by rcases lt8 hi with rfl | rfl | rfl | rfl | rfl | rfl | rfl | rfl <;> rfl⟩
 | [y0, y1, y2, y3, y4, y5, y6, y7], h => exact ⟨_, h, by simp, fun i hi => by rcases lt8 hi with rfl | rfl | rfl | rfl | rfl | rfl | rfl | rfl <;> rfl⟩
 | _ :: _ :: _ :: _ :: _ :: _ :: _ :: _ :: _ :: _, h => cases h
def fr0 (w : W8 AV) : Fr := .mk w u8 u8 u8 u8 u8 u8 u8
theorem fr0_ok {w : W8 AV} {l : List AV} {np nv : Nat} (hw : ∀ i, i < 8 → pk8 i w = l.getD i .undef) (hl : l.length = np) (h8 : l.length ≤ 8) (hnp : np ≤ nv) (hn : nv ≤ 64) : toL nv (fr0 w) = l ++ List.replicate (nv - np) .undef := by
 apply List.ext_getElem
 · simp [toL, hl]; omega
 · intro j h1 h2
   have hj : j < nv := by simpa [toL] using h1
   have hg : frGet j (fr0 w) = l.getD j .undef := by
    unfold frGet
    rcases Nat.lt_or_ge j 8 with h | h
    · rw [show j / 8 = 0 by omega, show j % 8 = j by omega]
      exact hw j h
    · have : pk8 (j / 8) (fr0 w) = u8 := by
       rcases lt8 (show j / 8 < 8 by omega) with e | e | e | e | e | e | e | e <;> rw [e] <;> first | (exfalso; omega) | rfl
      rw [this, pk_u8, List.getD_eq_getElem?_getD, List.getElem?_eq_none (by omega)]
      rfl
   simp only [toL, List.getElem_map, List.getElem_range, hg]
   rw [List.getElem_append]
   split
   · rename_i h; simp [List.getD, h]
   · rename_i h; rw [List.getD_eq_getElem?_getD, List.getElem?_eq_none (by omega)]; simp
end Go.Cb.G
/-
 THE ABSTRACT MACHINE, part 44: operations, made ready once, run over fast frames.
-/
set_option maxRecDepth 4000
set_option linter.unusedVariables false
namespace Go.Cb.G
open Go Go.Cb
abbrev RO := Option (AV × Fr × St)
abbrev Rd := List AV → Fr → (AV → RO) → RO
inductive Src where
 | w (l : Nat) | s (l : Nat) | d (l : Nat) | k (a : AV) | q (a : AV)
abbrev Scope := List (Nat × Src)
noncomputable def findS (s : Nat) (sc : Scope) : Option Src := List.rec (motive := fun _ => Option Src) none (fun p _ ih => Prod.rec (motive := fun _ => Option Src) (fun t x => Bool.rec (motive := fun _ => Option Src) ih (some x) (Nat.beq t s)) p) sc
theorem findS_c (s t : Nat) (x : Src) (sc : Scope) : findS s ((t, x) :: sc) = if t = s then some x else findS s sc := by
 show Bool.rec (motive := fun _ => Option Src) (findS s sc) (some x) (Nat.beq t s) = _
 by_cases h : t = s
 · rw [if_pos h, show Nat.beq t s = true by simpa using h]
 · rw [if_neg h, show Nat.beq t s = false from Bool.eq_false_iff.2 fun q => h (Nat.eq_of_beq_eq_true q)]
def lv (env : List AV) (l : Nat) : Option AV := env.reverse[l]?
theorem lv_c {env : List AV} {l : Nat} {a : AV} (x : AV) (h : lv env l = some a) : lv (x :: env) l = some a := by
 unfold lv at *
 rw [List.reverse_cons, List.getElem?_append_left (by
  rcases Nat.lt_or_ge l env.reverse.length with q | q
  · exact q
  · rw [List.getElem?_eq_none q] at h; cases h)]
 exact h
theorem lv_new (x : AV) (env : List AV) : lv (x :: env) env.length = some x := by
 unfold lv
 rw [List.reverse_cons, List.getElem?_append_right (by simp)]
 simp
theorem lv_ix {env : List AV} {l d : Nat} {a : AV} (hd : env.length = d) (h : lv env l = some a) : env[d - 1 - l]? = some a := by
 unfold lv at h
 have hl : l < env.length := by
  rcases Nat.lt_or_ge l env.reverse.length with q | q
  · simpa using q
  · rw [List.getElem?_eq_none q] at h; cases h
 rw [List.getElem?_reverse hl, hd] at h
 exact h
def SrcOK (env : List AV) (v : AV) : Src → Prop
 | .w l => ∃ a, lv env l = some a ∧ v.weak = a
 | .s l => ∃ a, lv env l = some a ∧ v = a
 | .d l => ∃ a, lv env l = some a ∧ v.weak = a.weak
 | .k a => v = a
 | .q a => v.weak = a
theorem SrcOK.push {env : List AV} {v : AV} {x : Src} (y : AV) (h : SrcOK env v x) : SrcOK (y :: env) v x := by
 cases x <;> simp only [SrcOK] at * <;> first | exact h | (obtain ⟨a, h1, h2⟩ := h; exact ⟨a, lv_c y h1, h2⟩)
structure Ag (nv dep : Nat) (sc : Scope) (env : List AV) (fr : Fr) (σ : Sig) : Prop where
 f : σ.fr = toL nv fr
 d : env.length = dep
 nb : ∀ s, (σ.τ s).stripB = σ.τ s
 t : ∀ s x, findS s sc = some x → SrcOK env (σ.τ s) x

noncomputable def onBxL (x : AV) (y z : RO) : RO := AV.rec (motive_1 := fun _ => RO) (motive_2 := fun _ => Unit) (motive_3 := fun _ => Unit)
 z (fun _ => z) (fun _ _ => z) (fun _ => z) (fun _ _ _ => z) (fun _ _ => z) z (fun _ _ => z) (fun _ _ => z) (fun _ _ => y) (fun _ => z) z (fun _ _ _ _ _ => z) z (fun _ _ => z) (fun _ _ => z) (fun _ _ _ => z) z (fun _ _ _ _ => z) (fun _ _ => z)
 () (fun _ _ _ _ => ()) () (fun _ _ _ _ => ()) x
noncomputable def qLoc (i : Nat) (x : AV) (k : AV → RO) : RO := onBxL x (k (.loc i 0)) (k .undef)
theorem qLoc_eq (i : Nat) (x : AV) (k : AV → RO) : qLoc i x k = k (match x with | .box _ => .loc i 0 | _ => .undef) := by cases x <;> rfl

section
variable {β : Type}
noncomputable def rdK (nv dep : Nat) (sc : Scope) (x : Opd) (e : β) (Q : Rd → β) : β :=
 match x with
 | .t s => match findS s sc with
  | some (.w l) => nthC (dep - 1 - l) fun r => Q fun env _ k => r env k
  | some (.s l) | some (.d l) => nthC (dep - 1 - l) fun r => Q fun env _ k => r env fun x => qWk x k
  | some (.k a) => Q fun _ _ k => k a.weak
  | some (.q a) => Q fun _ _ k => k a
  | none => e
 | .ts s => match findS s sc with
  | some (.s l) => nthC (dep - 1 - l) fun r => Q fun env _ k => r env k
  | some (.k a) => Q fun _ _ k => k a
  | _ => e
 | .v i => match Nat.blt i nv with
  | true => getC i e fun g => Q fun _ fr k => g fr fun x => qWk x k
  | false => e
 | .vs i => match Nat.blt i nv with
  | true => getC i e fun g => Q fun _ fr k => g fr k
  | false => e
 | .l i => match Nat.blt i nv with
  | true => getC i e fun g => Q fun _ fr k => g fr fun x => qLoc i x k
  | false => e
 | .c a => Q fun _ _ k => k a
def RdOK (nv dep : Nat) (sc : Scope) (x : Opd) (r : Rd) : Prop := ∀ env fr σ, Ag nv dep sc env fr σ → ∀ k, r env fr k = k (x.read σ)
theorem blt_lt {i n : Nat} (h : Nat.blt i n = true) : i < n := by simpa using h
theorem rdK_good {G : β → Prop} {nv dep : Nat} {sc : Scope} {x : Opd} {e : β} {Q : Rd → β} (hn : nv ≤ 64) (he : G e) (h : ∀ r, RdOK nv dep sc x r → G (Q r)) : G (rdK nv dep sc x e Q) := by
 unfold rdK
 cases x with
 | t s =>
  dsimp only
  cases hs : findS s sc with
  | none => exact he
  | some y =>
   cases y with
   | w l =>
    refine nthC_good _ fun r hr => h _ fun env fr σ ha k => ?_
    obtain ⟨a, h1, h2⟩ := ha.t _ _ hs
    show r env k = _
    rw [hr, lv_ix ha.d h1, ← h2]; rfl
   | s l =>
    refine nthC_good _ fun r hr => h _ fun env fr σ ha k => ?_
    obtain ⟨a, h1, h2⟩ := ha.t _ _ hs
    show r env _ = _
    rw [hr, lv_ix ha.d h1]
    show qWk a k = _
    rw [qWk_eq, ← h2]; rfl
   | d l =>
    refine nthC_good _ fun r hr => h _ fun env fr σ ha k => ?_
    obtain ⟨a, h1, h2⟩ := ha.t _ _ hs
    show r env _ = _
    rw [hr, lv_ix ha.d h1]
    show qWk a k = _
    rw [qWk_eq, ← h2]; rfl
   | k a =>
    refine h _ fun env fr σ ha k => ?_
    have := ha.t _ _ hs
    show k a.weak = k (σ.τ s).weak
    rw [show σ.τ s = a from this]
   | q a =>
    refine h _ fun env fr σ ha k => ?_
    have := ha.t _ _ hs
    show k a = k (σ.τ s).weak
    rw [show (σ.τ s).weak = a from this]
 | ts s =>
  dsimp only
  cases hs : findS s sc with
  | none => exact he
  | some y =>
   cases y with
   | s l =>
    refine nthC_good _ fun r hr => h _ fun env fr σ ha k => ?_
    obtain ⟨a, h1, h2⟩ := ha.t _ _ hs
    show r env k = _
    rw [hr, lv_ix ha.d h1, ← h2]; rfl
   | k a =>
    refine h _ fun env fr σ ha k => ?_
    have := ha.t _ _ hs
    show k a = k (σ.τ s)
    rw [show σ.τ s = a from this]
   | _ => exact he
 | v i =>
  dsimp only
  cases hb : Nat.blt i nv with
  | false => exact he
  | true =>
   have hi := blt_lt hb
   refine getC_good (by omega) he fun g hg => h _ fun env fr σ ha k => ?_
   show g fr (fun x => qWk x k) = k (σ.fr.getD i .undef).weak
   rw [hg, qWk_eq, ha.f, toL_get hi]
 | vs i =>
  dsimp only
  cases hb : Nat.blt i nv with
  | false => exact he
  | true =>
   have hi := blt_lt hb
   refine getC_good (by omega) he fun g hg => h _ fun env fr σ ha k => ?_
   show g fr k = k (σ.fr.getD i .undef)
   rw [hg, ha.f, toL_get hi]
 | l i =>
  dsimp only
  cases hb : Nat.blt i nv with
  | false => exact he
  | true =>
   have hi := blt_lt hb
   refine getC_good (by omega) he fun g hg => h _ fun env fr σ ha k => ?_
   show g fr (fun x => qLoc i x k) = _
   rw [hg, qLoc_eq]
   show _ = k (match σ.fr.getD i .undef with | .box _ => .loc i 0 | _ => .undef)
   rw [ha.f, toL_get hi]
 | c a => exact h _ fun _ _ _ _ _ => rfl

def rdL (nv dep : Nat) (sc : Scope) (rd : Opd → β → (Rd → β) → β) : List Opd → β → (List Rd → β) → β
 | [], _, Q => Q []
 | x :: xs, e, Q => rd x e fun r => rdL nv dep sc rd xs e fun rs => Q (r :: rs)
def RdsOK (nv dep : Nat) (sc : Scope) : List Opd → List Rd → Prop
 | [], [] => True
 | x :: xs, r :: rs => RdOK nv dep sc x r ∧ RdsOK nv dep sc xs rs
 | _, _ => False
theorem rdL_good {G : β → Prop} {nv dep : Nat} {sc : Scope} (hn : nv ≤ 64) : ∀ {xs : List Opd} {e : β} {Q : List Rd → β}, G e → (∀ rs, RdsOK nv dep sc xs rs → G (Q rs)) → G (rdL nv dep sc (fun x e Q => rdK nv dep sc x e Q) xs e Q)
 | [], e, Q, he, h => h [] trivial
 | x :: xs, e, Q, he, h => by
  unfold rdL
  exact rdK_good hn he fun r hr => rdL_good hn he fun rs hrs => h _ ⟨hr, hrs⟩
end
def rdAll : List Rd → List AV → Fr → (List AV → RO) → RO
 | [], _, _, k => k []
 | r :: rs, env, fr, k => r env fr fun x => rdAll rs env fr fun xs => k (x :: xs)
theorem rdAll_ok {nv dep : Nat} {sc : Scope} {env : List AV} {fr : Fr} {σ : Sig} (ha : Ag nv dep sc env fr σ) : ∀ {xs : List Opd} {rs : List Rd} {k : List AV → RO}, RdsOK nv dep sc xs rs → rdAll rs env fr k = k (xs.map (·.read σ))
 | [], [], k, _ => rfl
 | x :: xs, r :: rs, k, h => by
  show r env fr _ = _
  rw [h.1 env fr σ ha, rdAll_ok ha h.2]
  rfl
 | [], _ :: _, _, h => h.elim
 | _ :: _, [], _, h => h.elim
section
variable {β : Type}
abbrev RdA := List AV → Fr → (List AV → RO) → RO
noncomputable def allC (rs : List Rd) (Q : RdA → β) : β := List.rec (motive := fun _ => (RdA → β) → β) (fun Q => Q fun _ _ k => k []) (fun r _ ih Q => ih fun ra => Q fun env fr k => r env fr fun x => ra env fr fun xs => k (x :: xs)) rs Q
theorem allC_good {G : β → Prop} : ∀ {rs : List Rd} {Q : RdA → β}, (∀ ra : RdA, (∀ env fr k, ra env fr k = rdAll rs env fr k) → G (Q ra)) → G (allC rs Q)
 | [], Q, h => h _ fun _ _ _ => rfl
 | r :: rs, Q, h => allC_good (rs := rs) fun ra hra => h _ fun env fr k => by
  show r env fr _ = r env fr _
  congr
  funext x
  exact hra _ _ _

/-! kinds -/
abbrev KF := CallT → List AV → Fr → AV → St → (AV → AV → St → RO) → RO
def KFok (kd : Kind) (rs : List Rd) (kf : KF) : Prop := ∀ c env fr b s K, kf c env fr b s K = rdAll rs env fr fun as => obind (sem kd c as b s) fun p => K p.1 p.2.1 p.2.2
theorem pure_eq {kd : Kind} (h1 : kd.setSt = false) (h2 : kd.alters = false) (c : CallT) (as : List AV) (b : AV) (s : St) (K : AV → AV → St → RO) : obind (p1 (sem kd c as b s)) (fun r => K r b s) = obind (sem kd c as b s) fun p => K p.1 p.2.1 p.2.2 := by
 cases hs : sem kd c as b s with
 | none => rfl
 | some p =>
  obtain ⟨r, b', s'⟩ := p
  have e1 := sem_st h1 hs
  have e2 := sem_bx h2 hs
  subst e1 e2
  rfl
theorem pure2_eq {kd : Kind} (h2 : kd.alters = false) (c : CallT) (as : List AV) (b : AV) (s : St) (K : AV → AV → St → RO) : obind (p2 (sem kd c as b s)) (fun r => K r.1 b r.2) = obind (sem kd c as b s) fun p => K p.1 p.2.1 p.2.2 := by
 cases hs : sem kd c as b s with
 | none => rfl
 | some p =>
  obtain ⟨r, b', s'⟩ := p
  have e2 := sem_bx h2 hs
  subst e2
  rfl
noncomputable def qCallG (c : CallT) (s : St) (K : AV → St → RO) (i : Nat) (xs : List AV) : RO := plainL xs fun ws => onR2 (c i ws s) fun v s => K v s
noncomputable def qLdAn (c : CallT) (b : AV) (s : St) (f : AV → RO) (g : Bool) (d : Nat) (x : AV) : RO := onPRL x (obind (p1 (sem (.ldAn g d) c [x] b s)) f) (fun o i => qLdSt s f g d (.ptr o i)) (fun cs => qLdRo f g d (.ro cs)) (fun _ _ => obind (p1 (sem (.ldAn g d) c [x] b s)) f)
theorem qLdAn_eq (c : CallT) (b : AV) (s : St) (f : AV → RO) (g : Bool) (d : Nat) (x : AV) : qLdAn c b s f g d x = obind (p1 (sem (.ldAn g d) c [x] b s)) f := by
 unfold qLdAn
 rw [onPRL_eq]
 cases x <;> try rfl
 · rename_i o i
   show qLdSt s f g d (.ptr o i) = _
   rw [qLdSt_eq c b s]; rfl
 · rename_i cs
   show qLdRo f g d (.ro cs) = _
   rw [qLdRo_eq c b s]; rfl
noncomputable def genK (kd : Kind) (ra : RdA) (Q : KF → β) : β := match kd.alters with
 | true => Q fun c env fr b s K => ra env fr fun as => obind (sem kd c as b s) fun p => fNew p.1 fun r => fNew p.2.1 fun b => fL p.2.2 fun s => K r b s
 | false => match kd.setSt with
  | true => Q fun c env fr b s K => ra env fr fun as => obind (p2 (sem kd c as b s)) fun p => fNew p.1 fun r => fL p.2 fun s => K r b s
  | false => Q fun c env fr b s K => ra env fr fun as => obind (p1 (sem kd c as b s)) fun x => fNew x fun r => K r b s
noncomputable def kindK (kd : Kind) (rs : List Rd) (Q : KF → β) : β :=
 match kd, rs with
 | .mv, [x] => Q fun c env fr b s K => x env fr fun x => K x b s
 | .bin .eql, [x, y] => Q fun c env fr b s K => x env fr fun x => y env fr fun y => qEql (fun r => K r b s) x y
 | .bin .neq, [x, y] => Q fun c env fr b s K => x env fr fun x => y env fr fun y => qNeq (fun r => K r b s) x y
 | .bin .lss, [x, y] => Q fun c env fr b s K => x env fr fun x => y env fr fun y => qCmp c b s (fun r => K r b s) .lss Nat.blt x y
 | .bin .leq, [x, y] => Q fun c env fr b s K => x env fr fun x => y env fr fun y => qCmp c b s (fun r => K r b s) .leq Nat.ble x y
 | .bin .gtr, [x, y] => Q fun c env fr b s K => x env fr fun x => y env fr fun y => qCmp c b s (fun r => K r b s) .gtr (fun i j => Nat.blt j i) x y
 | .bin .geq, [x, y] => Q fun c env fr b s K => x env fr fun x => y env fr fun y => qCmp c b s (fun r => K r b s) .geq (fun i j => Nat.ble j i) x y
 | .bin .add, [x, y] => Q fun c env fr b s K => x env fr fun x => y env fr fun y => qAdd c b s (fun r => K r b s) x y
 | .bin .sub, [x, y] => Q fun c env fr b s K => x env fr fun x => y env fr fun y => qSub c b s (fun r => K r b s) x y
 | .un .not, [x] => Q fun c env fr b s K => x env fr fun x => qNot (fun r => K r b s) x
 | .nilchk, [x] => Q fun c env fr b s K => x env fr fun x => qNil c b s (fun r => K r b s) x
 | .lenS, [x] => Q fun c env fr b s K => x env fr fun x => qLenS (fun r => K r b s) x
 | .lenL, [x] => Q fun c env fr b s K => x env fr fun x => qLenL c b s (fun r => K r b s) x
 | .idxS, [x, y] => Q fun c env fr b s K => x env fr fun x => y env fr fun y => qIdx (fun r => K r b s) x y
 | .pick, [x, y, z] => Q fun c env fr b s K => x env fr fun x => y env fr fun y => z env fr fun z => qPick (fun r => K r b s) x y z
 | .fad d, [x] => Q fun c env fr b s K => x env fr fun x => qFad (fun r => K r b s) d x
 | .iad d, [x, y] => Q fun c env fr b s K => x env fr fun x => y env fr fun y => qIad c b s (fun r => K r b s) d x y
 | .ldSt g d, [x] => Q fun c env fr b s K => x env fr fun x => qLdSt s (fun r => K r b s) g d x
 | .ldRo g d, [x] => Q fun c env fr b s K => x env fr fun x => qLdRo (fun r => K r b s) g d x
 | .ldAn g d, [x] => Q fun c env fr b s K => x env fr fun x => qLdAn c b s (fun r => K r b s) g d x
 | .ldLc i g d, [x] => Q fun c env fr b s K => x env fr fun x => qLdLc b (fun r => K r b s) i g d x
 | .ext d, [x] => Q fun c env fr b s K => x env fr fun x => qExt (fun r => K r b s) d x
 | .slS true true, [x, y, z] => Q fun c env fr b s K => x env fr fun x => y env fr fun y => z env fr fun z => qSlS c b s (fun r => K r b s) x y z
 | .app d e, [x, y] => Q fun c env fr b s K => x env fr fun x => y env fr fun y => qApp b s (fun p => K p.1 p.2.1 p.2.2) d e x y
 | .alloc d, [] => Q fun c env fr b s K => qAlloc b s (fun p => K p.1 p.2.1 p.2.2) d
 | .stLc i d, [x, y] => Q fun c env fr b s K => x env fr fun x => y env fr fun y => qStLc b s (fun p => K p.1 p.2.1 p.2.2) i d x y
 | .stSt d, [x, y] => Q fun c env fr b s K => x env fr fun x => y env fr fun y => qStSt s (fun p => K p.1 b p.2) d x y
 | .call f, rs => allC rs fun ra => Q fun c env fr b s K => ra env fr fun as => qCallG c s (fun v s => K v b s) f as
 | kd, rs => allC rs fun ra => genK kd ra Q
theorem genK_good {G : β → Prop} {kd : Kind} {rs : List Rd} {ra : RdA} {Q : KF → β} (hra : ∀ env fr k, ra env fr k = rdAll rs env fr k) (h : ∀ kf, KFok kd rs kf → G (Q kf)) : G (genK kd ra Q) := by
 unfold genK
 cases h2 : kd.alters with
 | true => exact h _ fun c env fr b s K => by rw [hra]; simp only [fNew_eq, fL_eq]
 | false =>
  cases h1 : kd.setSt with
  | true =>
   refine h _ fun c env fr b s K => ?_
   rw [hra]; simp only [fNew_eq, fL_eq]
   congr; funext as
   exact pure2_eq h2 c as b s K
  | false =>
   refine h _ fun c env fr b s K => ?_
   rw [hra]; simp only [fNew_eq]
   congr; funext as
   exact pure_eq h1 h2 c as b s K
theorem rdAll1 (x : Rd) (env : List AV) (fr : Fr) (k : List AV → RO) : rdAll [x] env fr k = x env fr fun x => k [x] := rfl
theorem rdAll2 (x y : Rd) (env : List AV) (fr : Fr) (k : List AV → RO) : rdAll [x, y] env fr k = x env fr fun x => y env fr fun y => k [x, y] := rfl
theorem rdAll3 (x y z : Rd) (env : List AV) (fr : Fr) (k : List AV → RO) : rdAll [x, y, z] env fr k = x env fr fun x => y env fr fun y => z env fr fun z => k [x, y, z] := rfl
theorem kindK_good {G : β → Prop} {kd : Kind} {rs : List Rd} {Q : KF → β} (h : ∀ kf, KFok kd rs kf → G (Q kf)) : G (kindK kd rs Q) := by
 unfold kindK
 split
 · exact h _ fun c env fr b s K => rfl
 · exact h _ fun c env fr b s K => by rw [rdAll2]; congr; funext x; congr; funext y; rw [qEql_eq c b s]; exact pure_eq rfl rfl ..
 · exact h _ fun c env fr b s K => by rw [rdAll2]; congr; funext x; congr; funext y; rw [qNeq_eq c b s]; exact pure_eq rfl rfl ..
 · exact h _ fun c env fr b s K => by rw [rdAll2]; congr; funext x; congr; funext y; rw [lss_eq c b s]; exact pure_eq rfl rfl ..
 · exact h _ fun c env fr b s K => by rw [rdAll2]; congr; funext x; congr; funext y; rw [leq_eq c b s]; exact pure_eq rfl rfl ..
 · exact h _ fun c env fr b s K => by rw [rdAll2]; congr; funext x; congr; funext y; rw [gtr_eq c b s]; exact pure_eq rfl rfl ..
 · exact h _ fun c env fr b s K => by rw [rdAll2]; congr; funext x; congr; funext y; rw [geq_eq c b s]; exact pure_eq rfl rfl ..
 · exact h _ fun c env fr b s K => by rw [rdAll2]; congr; funext x; congr; funext y; rw [qAdd_eq c b s]; exact pure_eq rfl rfl ..
 · exact h _ fun c env fr b s K => by rw [rdAll2]; congr; funext x; congr; funext y; rw [qSub_eq c b s]; exact pure_eq rfl rfl ..
 · exact h _ fun c env fr b s K => by rw [rdAll1]; congr; funext x; rw [qNot_eq c b s]; exact pure_eq rfl rfl ..
 · exact h _ fun c env fr b s K => by rw [rdAll1]; congr; funext x; rw [qNil_eq c b s]; exact pure_eq rfl rfl ..
 · exact h _ fun c env fr b s K => by rw [rdAll1]; congr; funext x; rw [qLenS_eq c b s]; exact pure_eq rfl rfl ..
 · exact h _ fun c env fr b s K => by rw [rdAll1]; congr; funext x; rw [qLenL_eq c b s]; exact pure_eq rfl rfl ..
 · exact h _ fun c env fr b s K => by rw [rdAll2]; congr; funext x; congr; funext y; rw [qIdx_eq c b s]; exact pure_eq rfl rfl ..
 · exact h _ fun c env fr b s K => by rw [rdAll3]; congr; funext x; congr; funext y; congr; funext z; rw [qPick_eq c b s]; exact pure_eq rfl rfl ..
 · exact h _ fun c env fr b s K => by rw [rdAll1]; congr; funext x; rw [qFad_eq c b s]; exact pure_eq rfl rfl ..
 · exact h _ fun c env fr b s K => by rw [rdAll2]; congr; funext x; congr; funext y; rw [qIad_eq c b s]; exact pure_eq rfl rfl ..
 · exact h _ fun c env fr b s K => by rw [rdAll1]; congr; funext x; rw [qLdSt_eq c b s]; exact pure_eq rfl rfl ..
 · exact h _ fun c env fr b s K => by rw [rdAll1]; congr; funext x; rw [qLdRo_eq c b s]; exact pure_eq rfl rfl ..
 · exact h _ fun c env fr b s K => by rw [rdAll1]; congr; funext x; rw [qLdAn_eq c b s]; exact pure_eq rfl rfl ..
 · exact h _ fun c env fr b s K => by rw [rdAll1]; congr; funext x; rw [qLdLc_eq c b s]; exact pure_eq rfl rfl ..
 · exact h _ fun c env fr b s K => by rw [rdAll1]; congr; funext x; rw [qExt_eq c b s]; exact pure_eq rfl rfl ..
 · exact h _ fun c env fr b s K => by rw [rdAll3]; congr; funext x; congr; funext y; congr; funext z; rw [qSlS_eq c b s]; exact pure_eq rfl rfl ..
 · exact h _ fun c env fr b s K => by rw [rdAll2]; congr; funext x; congr; funext y; exact qApp_eq c b s ..
 · exact h _ fun c env fr b s K => qAlloc_eq c b s ..
 · exact h _ fun c env fr b s K => by rw [rdAll2]; congr; funext x; congr; funext y; exact qStLc_eq c b s ..
 · exact h _ fun c env fr b s K => by rw [rdAll2]; congr; funext x; congr; funext y; rw [qStSt_eq c b s]; exact pure2_eq rfl ..
 · refine allC_good fun ra hra => h _ fun c env fr b s K => ?_
   rw [hra]
   congr; funext as
   show qCallG c s (fun v s => K v b s) _ as = _
   unfold qCallG
   rw [plainL_eq]
   simp only [sem, semCall]
   split
   · rw [onR2_eq]
     cases c _ (as.map AV.weak) s <;> rfl
   · rfl
 · exact allC_good fun ra hra => genK_good hra h
end
end Go.Cb.G
/-
 THE ABSTRACT MACHINE, part 45: regions, made ready once.
-/
set_option maxRecDepth 4000
set_option linter.unusedVariables false
namespace Go.Cb.G
open Go Go.Cb
inductive Clo where
 | mk (f : CallT → List AV → Fr → St → RO)
noncomputable def Clo.run (x : Clo) : CallT → List AV → Fr → St → RO := Clo.rec (motive := fun _ => CallT → List AV → Fr → St → RO) (fun f => f) x
noncomputable def stuckC : Clo := .mk fun _ _ _ _ => none
abbrev OpF := CallT → List AV → Fr → St → (List AV → Fr → St → RO) → RO
abbrev CF := CallT → List AV → Fr → St → (AV → Fr → St → RO) → RO
section
variable {β : Type}
noncomputable def spendS : List Opd → Scope → Scope
 | [], sc => sc
 | .ts s :: xs, sc => spendS xs (match findS s sc with
  | some (.s l) => (s, .d l) :: sc
  | some (.k a) => (s, .q a.weak) :: sc
  | _ => sc)
 | _ :: xs, sc => spendS xs sc
noncomputable def spendF (nv : Nat) : List Opd → β → ((Fr → (Fr → RO) → RO) → β) → β
 | [], _, Q => Q fun fr k => k fr
 | .vs i :: xs, e, Q => match Nat.blt i nv with
  | true => getC i e fun g => putC i e fun p => spendF nv xs e fun r => Q fun fr k => g fr fun x => qWk x fun x => p x fr fun fr => r fr k
  | false => e
 | _ :: xs, e, Q => spendF nv xs e Q
def hasVs : List Opd → Bool
 | [] => false
 | .vs _ :: _ => true
 | _ :: xs => hasVs xs
noncomputable def coreK (nv : Nat) (kd : Kind) (args : List Opd) (box : Option Nat) (kf : KF) (e : β) (Q : CF → β) : β :=
 match hasVs args, box with
 | false, none => Q fun c env fr st K => kf c env fr .undef st fun r _ s => K r fr s
 | true, none => spendF nv args e fun sp => Q fun c env fr st K => kf c env fr .undef st fun r _ s => sp fr fun fr => K r fr s
 | vs, some i => match Nat.blt i nv with
  | false => e
  | true => getC i e fun g => match kd.alters || vs with
   | false => Q fun c env fr st K => g fr fun b => kf c env fr b st fun r _ s => K r fr s
   | true => spendF nv args e fun sp => putC i e fun p => Q fun c env fr st K => g fr fun b => kf c env fr b st fun r b s => sp fr fun fr => p b fr fun fr => K r fr s
abbrev PF := AV → List AV → Fr → St → (List AV → Fr → St → RO) → RO
def memN (x : Nat) : List Nat → Bool
 | [] => false
 | y :: ys => Nat.beq x y || memN x ys
noncomputable def dstK (nv dep : Nat) (tss : List Nat) (d : Dst) (sc : Scope) (e : β) (Q : PF → Nat → Scope → β) : β :=
 match d with
 | .t s => match memN s tss with
  | true => Q (fun r env fr s k => qSb r fun v _ => k (v :: env) fr s) (dep + 1) ((s, .s dep) :: sc)
  | false => Q (fun r env fr s k => qSb r fun _ w => k (w :: env) fr s) (dep + 1) ((s, .w dep) :: sc)
 | .v i => match Nat.blt i nv with
  | true => putC i e fun p => Q (fun r env fr s k => qSv r fun v _ => p v fr fun fr => k env fr s) dep sc
  | false => e
 | _ => Q (fun r env fr s k => k env fr s) dep sc
noncomputable def qGd (q : AV) (w : Bool) (x y : RO) : RO := onBT q none (fun v => bW v w x y) (fun vs => List.rec (motive := fun _ => RO) y (fun _ _ _ => none) vs)
theorem qGd_eq (q : AV) (w : Bool) (x y : RO) : qGd q w x y = match q with | .bool b => if b == w then x else y | .tuple [] => y | _ => none := by
 simp only [qGd, onBT_eq, bW_eq]
 cases q <;> try rfl
 rename_i vs; cases vs <;> rfl
def aliasOf (o : AOper) : Option (Nat × Opd) := match o with
 | ⟨.t s, .mv, [.t s'], none, none⟩ => some (s, .t s')
 | ⟨.t s, .mv, [.c a], none, none⟩ => some (s, .c a)
 | _ => none
noncomputable def opK (nv dep : Nat) (sc : Scope) (tss : List Nat) (o : AOper) (e : β) (Q0 : Scope → β) (Q : OpF → Nat → Scope → β) : β :=
 match aliasOf o with
 | some (s, .t s') => match findS s' sc with
  | some (.w l) => Q0 ((s, .w l) :: sc)
  | some (.s l) | some (.d l) => Q0 ((s, .d l) :: sc)
  | some (.k a) => Q0 ((s, .q a.weak) :: sc)
  | some (.q a) => Q0 ((s, .q a) :: sc)
  | none => e
 | some (s, .c a) => Q0 ((s, .k a.stripB) :: sc)
 | _ => rdL nv dep sc (fun x e Q => rdK nv dep sc x e Q) o.args e fun rs => kindK o.kind rs fun kf => coreK nv o.kind o.args o.box kf e fun cf =>
  dstK nv dep tss o.dst (spendS o.args sc) e fun pf dep' sc' => match o.guard with
   | none => Q (fun c env fr st k => cf c env fr st fun r fr s => pf r env fr s k) dep' sc'
   | some (x, w) => rdK nv dep sc x e fun g => Q (fun c env fr st k => g env fr fun q => qGd q w (cf c env fr st fun r fr s => pf r env fr s k) (pf (.tuple []) env fr st k)) dep' sc'

/-! what is true of them -/
theorem nb_weak {v : AV} (h : v.stripB = v) : v.weak.stripB = v.weak := by cases v <;> first | rfl | cases h
theorem stripB_idem (v : AV) : v.stripB.stripB = v.stripB := by cases v <;> rfl
theorem updT_eq (τ : Nat → AV) (s : Nat) (a : AV) (j : Nat) : updT τ s a j = if j = s then a else τ j := by
 unfold updT
 by_cases h : j = s
 · subst h; simp
 · rw [if_neg h]; simp [h]
theorem spend_ok {nv : Nat} (hn : nv ≤ 64) : ∀ (xs : List Opd) {G : β → Prop} {e : β} {Q : (Fr → (Fr → RO) → RO) → β}, G e →
 (∀ sp : Fr → (Fr → RO) → RO, (∀ fr σ, σ.fr = toL nv fr → ∃ fr', (∀ k, sp fr k = k fr') ∧ (spendAll xs σ).fr = toL nv fr') → G (Q sp)) → G (spendF nv xs e Q)
 | [], G, e, Q, he, h => h _ fun fr σ hf => ⟨fr, fun _ => rfl, hf⟩
 | x :: xs, G, e, Q, he, h => by
  cases x with
  | vs i =>
   unfold spendF
   cases hb : Nat.blt i nv with
   | false => exact he
   | true =>
    have hi := blt_lt hb
    refine getC_good (by omega) he fun g hg => putC_good (by omega) he fun p hp => spend_ok hn xs he fun sp hsp => h _ fun fr σ hf => ?_
    obtain ⟨fr', h1, h2⟩ := hsp (frSet i (frGet i fr).weak fr) (Opd.spend (.vs i) σ) (by
     show σ.fr.set i (σ.fr.getD i .undef).weak = _
     rw [hf, toL_get hi, toL_set hi hn])
    refine ⟨fr', fun k => ?_, h2⟩
    show g fr (fun x => qWk x fun x => p x fr fun fr => sp fr k) = _
    rw [hg, qWk_eq, hp, h1]
  | ts s => exact spend_ok hn xs he fun sp hsp => h sp fun fr σ hf => hsp fr (Opd.spend (.ts s) σ) hf
  | t s => exact spend_ok hn xs he fun sp hsp => h sp fun fr σ hf => hsp fr σ hf
  | v s => exact spend_ok hn xs he fun sp hsp => h sp fun fr σ hf => hsp fr σ hf
  | l s => exact spend_ok hn xs he fun sp hsp => h sp fun fr σ hf => hsp fr σ hf
  | c s => exact spend_ok hn xs he fun sp hsp => h sp fun fr σ hf => hsp fr σ hf
def ScOK (sc : Scope) (env : List AV) (τ : Nat → AV) : Prop := ∀ s x, findS s sc = some x → SrcOK env (τ s) x
theorem spendS_ok {env : List AV} : ∀ {xs : List Opd} {sc : Scope} {σ : Sig}, ScOK sc env σ.τ → (∀ s, (σ.τ s).stripB = σ.τ s) →
 ScOK (spendS xs sc) env σ.τ ∧ ScOK (spendS xs sc) env (spendAll xs σ).τ ∧ (∀ s, ((spendAll xs σ).τ s).stripB = (spendAll xs σ).τ s) ∧ (spendAll xs σ).st = σ.st
 | [], sc, σ, h, hb => ⟨h, h, hb, rfl⟩
 | x :: xs, sc, σ, h, hb => by
  cases x with
  | ts s =>
   have hw : ∀ (v : AV), v = σ.τ s ∨ v = (σ.τ s).weak → ∀ y, findS s (match findS s sc with | some (.s l) => (s, .d l) :: sc | some (.k a) => (s, .q a.weak) :: sc | _ => sc) = some y → SrcOK env v y := by
    intro v hv y hy
    have hw' : v.weak = (σ.τ s).weak := by rcases hv with rfl | rfl; rfl; exact weak_weak _
    cases hs : findS s sc with
    | none => rw [hs] at hy; dsimp only at hy; rw [hs] at hy; cases hy
    | some z =>
     have hz := h _ _ hs
     rw [hs] at hy
     cases z with
     | s l =>
      dsimp only at hy
      rw [findS_c, if_pos rfl] at hy
      cases hy
      obtain ⟨a, h1, h2⟩ := hz
      exact ⟨a, h1, by rw [hw', h2]⟩
     | k a =>
      dsimp only at hy
      rw [findS_c, if_pos rfl] at hy
      cases hy
      show v.weak = a.weak
      rw [hw', show σ.τ s = a from hz]
     | w l =>
      dsimp only at hy
      rw [hs] at hy
      cases hy
      obtain ⟨a, h1, h2⟩ := hz
      exact ⟨a, h1, by rw [hw', h2]⟩
     | d l =>
      dsimp only at hy
      rw [hs] at hy
      cases hy
      obtain ⟨a, h1, h2⟩ := hz
      exact ⟨a, h1, by rw [hw', h2]⟩
     | q a =>
      dsimp only at hy
      rw [hs] at hy
      cases hy
      show v.weak = a
      rw [hw']
      exact hz
   have ho : ∀ t, t ≠ s → ∀ y, findS t (match findS s sc with | some (.s l) => (s, .d l) :: sc | some (.k a) => (s, .q a.weak) :: sc | _ => sc) = some y → findS t sc = some y := by
    intro t ht y hy
    cases hs : findS s sc with
    | none => rw [hs] at hy; exact hy
    | some z =>
     rw [hs] at hy
     cases z <;> dsimp only at hy <;> first | exact hy | (rw [findS_c, if_neg (fun q => ht q.symm)] at hy; exact hy)
   have h1 : ScOK (match findS s sc with | some (.s l) => (s, .d l) :: sc | some (.k a) => (s, .q a.weak) :: sc | _ => sc) env σ.τ := fun t y hy => by
    by_cases e : t = s
    · subst e; exact hw _ (.inl rfl) y hy
    · exact h _ _ (ho t e y hy)
   have h2 : ScOK (match findS s sc with | some (.s l) => (s, .d l) :: sc | some (.k a) => (s, .q a.weak) :: sc | _ => sc) env (Opd.spend (.ts s) σ).τ := fun t y hy => by
    show SrcOK env (updT σ.τ s (σ.τ s).weak t) y
    rw [updT_eq]
    by_cases e : t = s
    · subst e; rw [if_pos rfl]; exact hw _ (.inr rfl) y hy
    · rw [if_neg e]; exact h _ _ (ho t e y hy)
   have hb2 : ∀ t, ((Opd.spend (.ts s) σ).τ t).stripB = (Opd.spend (.ts s) σ).τ t := fun t => by
    show (updT σ.τ s (σ.τ s).weak t).stripB = updT σ.τ s (σ.τ s).weak t
    rw [updT_eq]
    split
    · exact nb_weak (hb s)
    · exact hb t
   have a := spendS_ok (xs := xs) h1 hb
   have b := spendS_ok (xs := xs) h2 hb2
   exact ⟨a.1, b.2.1, b.2.2.1, b.2.2.2⟩
  | vs i =>
   have a := spendS_ok (xs := xs) h hb
   have b := spendS_ok (xs := xs) (σ := Opd.spend (.vs i) σ) h hb
   exact ⟨a.1, b.2.1, b.2.2.1, b.2.2.2⟩
  | t s => exact spendS_ok (xs := xs) h hb
  | v s => exact spendS_ok (xs := xs) h hb
  | l s => exact spendS_ok (xs := xs) h hb
  | c s => exact spendS_ok (xs := xs) h hb
theorem hasVs_no {xs : List Opd} (h : hasVs xs = false) : ∀ σ : Sig, (spendAll xs σ).fr = σ.fr := by
 induction xs with
 | nil => intro σ; rfl
 | cons x xs ih => intro σ; cases x <;> first | exact ih h _ | cases h

def CFok (nv dep : Nat) (sc : Scope) (o : AOper) (cf : CF) : Prop := ∀ c env fr st σ, Ag nv dep sc env fr σ → σ.st = st → ∀ (K : AV → Fr → St → RO) out, cf c env fr st K = some out →
 ∃ r b st' fr', sem o.kind c (o.args.map (·.read σ)) (match o.box with | some i => σ.fr.getD i .undef | none => .undef) st = some (r, b, st') ∧ K r fr' st' = some out ∧
  (match o.box with | some i => (spendAll o.args σ).fr.set i b | none => (spendAll o.args σ).fr) = toL nv fr'
theorem ob_some {α γ : Type} {x : Option α} {f : α → Option γ} {r : γ} (h : obind x f = some r) : ∃ a, x = some a ∧ f a = some r := by
 cases x with
 | none => cases h
 | some a => exact ⟨a, rfl, h⟩
theorem coreK_good {G : β → Prop} {nv dep : Nat} {sc : Scope} {o : AOper} {rs : List Rd} {kf : KF} {e : β} {Q : CF → β} (hn : nv ≤ 64) (hrs : RdsOK nv dep sc o.args rs) (hkf : KFok o.kind rs kf) (he : G e) (h : ∀ cf, CFok nv dep sc o cf → G (Q cf)) :
 G (coreK nv o.kind o.args o.box kf e Q) := by
 unfold coreK
 split
 · rename_i hv hb
   refine h _ fun c env fr st σ ha hst K out hout => ?_
   rw [hkf, rdAll_ok ha hrs] at hout
   obtain ⟨⟨r, b, st'⟩, h1, h2⟩ := ob_some hout
   exact ⟨r, b, st', fr, by rw [hb]; exact h1, h2, by rw [hb]; dsimp only; rw [hasVs_no hv, ha.f]⟩
 · rename_i hv hb
   refine spend_ok hn o.args he fun sp hsp => h _ fun c env fr st σ ha hst K out hout => ?_
   rw [hkf, rdAll_ok ha hrs] at hout
   obtain ⟨⟨r, b, st'⟩, h1, h2⟩ := ob_some hout
   obtain ⟨fr', h3, h4⟩ := hsp fr σ ha.f
   dsimp only at h2
   rw [h3] at h2
   exact ⟨r, b, st', fr', by rw [hb]; exact h1, h2, by rw [hb]; exact h4⟩
 · rename_i i hb
   cases hbi : Nat.blt i nv with
   | false => exact he
   | true =>
    have hi := blt_lt hbi
    refine getC_good (by omega) he fun g hg => ?_
    split
    · rename_i hal
      simp only [Bool.or_eq_false_iff] at hal
      refine h _ fun c env fr st σ ha hst K out hout => ?_
      rw [hg, hkf, rdAll_ok ha hrs] at hout
      obtain ⟨⟨r, b, st'⟩, h1, h2⟩ := ob_some hout
      refine ⟨r, b, st', fr, by rw [hb]; dsimp only; rw [ha.f, toL_get hi]; exact h1, h2, ?_⟩
      rw [hb]
      have := sem_bx hal.1 h1
      subst this
      dsimp only
      rw [hasVs_no hal.2, ha.f, ← toL_get hi fr]
      exact set_getD' _ _
    · refine spend_ok hn o.args he fun sp hsp => putC_good (by omega) he fun p hp => h _ fun c env fr st σ ha hst K out hout => ?_
      rw [hg, hkf, rdAll_ok ha hrs] at hout
      obtain ⟨⟨r, b, st'⟩, h1, h2⟩ := ob_some hout
      obtain ⟨fr', h3, h4⟩ := hsp fr σ ha.f
      dsimp only at h2
      rw [h3, hp] at h2
      refine ⟨r, b, st', _, by rw [hb]; dsimp only; rw [ha.f, toL_get hi]; exact h1, h2, ?_⟩
      rw [hb]
      dsimp only
      rw [h4, toL_set hi hn]

def PFok (nv dep : Nat) (o : AOper) (sc : Scope) (pf : PF) (dep' : Nat) (sc' : Scope) : Prop := ∀ r env fr s (k : List AV → Fr → St → RO) out, pf r env fr s k = some out → ∀ σ : Sig, σ.fr = toL nv fr → env.length = dep → (∀ t, (σ.τ t).stripB = σ.τ t) → ScOK sc env σ.τ → σ.st = s →
 ∃ env' fr', k env' fr' s = some out ∧ Ag nv dep' sc' env' fr' (o.dst.put r σ) ∧ (o.dst.put r σ).st = s
theorem dstK_good {G : β → Prop} {nv dep : Nat} {tss : List Nat} {o : AOper} {sc : Scope} {e : β} {Q : PF → Nat → Scope → β} (hn : nv ≤ 64) (he : G e) (h : ∀ pf dep' sc', PFok nv dep o sc pf dep' sc' → G (Q pf dep' sc')) : G (dstK nv dep tss o.dst sc e Q) := by
 unfold dstK
 cases hd : o.dst with
 | t s =>
  dsimp only
  have nb' : ∀ (σ : Sig) (r : AV), (∀ t, (σ.τ t).stripB = σ.τ t) → ∀ t, (updT σ.τ s r.stripB t).stripB = updT σ.τ s r.stripB t := fun σ r hb t => by
   rw [updT_eq]; split
   · exact stripB_idem r
   · exact hb t
  have sc1 : ∀ (σ : Sig) (r : AV) (env : List AV) (y : Src) (v : AV), env.length = dep → ScOK sc env σ.τ → SrcOK (v :: env) r.stripB y → ScOK ((s, y) :: sc) (v :: env) (updT σ.τ s r.stripB) := fun σ r env y v hl hsc hy t x hx => by
   rw [findS_c] at hx
   rw [updT_eq]
   split at hx
   · rename_i e; cases hx; rw [if_pos e.symm]; exact hy
   · rename_i e; rw [if_neg (fun q => e q.symm)]; exact (hsc _ _ hx).push v
  cases memN s tss with
  | true =>
   refine h _ _ _ fun r env fr s' k out hout σ hf hl hb hsc hst => ?_
   rw [qSb_eq] at hout
   refine ⟨_, _, hout, ?_, by rw [hd]; exact hst⟩
   rw [hd]
   exact ⟨hf, by simp [hl], nb' σ r hb, sc1 σ r env _ _ hl hsc ⟨_, by rw [← hl]; exact lv_new _ _, rfl⟩⟩
  | false =>
   refine h _ _ _ fun r env fr s' k out hout σ hf hl hb hsc hst => ?_
   rw [qSb_eq] at hout
   refine ⟨_, _, hout, ?_, by rw [hd]; exact hst⟩
   rw [hd]
   exact ⟨hf, by simp [hl], nb' σ r hb, sc1 σ r env _ _ hl hsc ⟨_, by rw [← hl]; exact lv_new _ _, rfl⟩⟩
 | v i =>
  dsimp only
  cases hbi : Nat.blt i nv with
  | false => exact he
  | true =>
   have hi := blt_lt hbi
   refine putC_good (by omega) he fun p hp => h _ _ _ fun r env fr s' k out hout σ hf hl hb hsc hst => ?_
   rw [qSv_eq, hp] at hout
   refine ⟨_, _, hout, ?_, by rw [hd]; exact hst⟩
   rw [hd]
   exact ⟨by show σ.fr.set i r.strip = _; rw [hf, toL_set hi hn], hl, hb, hsc⟩
 | none =>
  refine h _ _ _ fun r env fr s' k out hout σ hf hl hb hsc hst => ?_
  refine ⟨_, _, hout, ?_, by rw [hd]; exact hst⟩
  rw [hd]
  exact ⟨hf, hl, hb, hsc⟩
 | bx =>
  refine h _ _ _ fun r env fr s' k out hout σ hf hl hb hsc hst => ?_
  refine ⟨_, _, hout, ?_, by rw [hd]; exact hst⟩
  rw [hd]
  exact ⟨hf, hl, hb, hsc⟩

def OpOK (nv dep : Nat) (sc : Scope) (o : AOper) (opf : OpF) (dep' : Nat) (sc' : Scope) : Prop := ∀ c env fr st σ, Ag nv dep sc env fr σ → σ.st = st → ∀ (k : List AV → Fr → St → RO) out, opf c env fr st k = some out →
 ∃ σ' env' fr', stepOp c o σ = some σ' ∧ Ag nv dep' sc' env' fr' σ' ∧ k env' fr' σ'.st = some out
def AlOK (nv dep : Nat) (sc : Scope) (o : AOper) (sc' : Scope) : Prop := ∀ c env fr σ, Ag nv dep sc env fr σ → ∃ σ', stepOp c o σ = some σ' ∧ Ag nv dep sc' env fr σ' ∧ σ'.st = σ.st
theorem alias_put {nv dep : Nat} {sc : Scope} {env : List AV} {fr : Fr} {σ : Sig} (ha : Ag nv dep sc env fr σ) (s : Nat) (v : AV) (y : Src) (hy : SrcOK env v.stripB y) : Ag nv dep ((s, y) :: sc) env fr ({ σ with τ := updT σ.τ s v.stripB }) :=
 ⟨ha.f, ha.d, fun t => by
  show (updT σ.τ s v.stripB t).stripB = updT σ.τ s v.stripB t
  rw [updT_eq]; split
  · exact stripB_idem v
  · exact ha.nb t, fun t x hx => by
  show SrcOK env (updT σ.τ s v.stripB t) x
  rw [findS_c] at hx
  rw [updT_eq]
  split at hx
  · rename_i e; cases hx; rw [if_pos e.symm]; exact hy
  · rename_i e; rw [if_neg (fun q => e q.symm)]; exact ha.t _ _ hx⟩
theorem step_alias (c : CallT) (s : Nat) (x : Opd) (hx : x.steals = false) (σ : Sig) : stepOp c ⟨.t s, .mv, [x], none, none⟩ σ = some { σ with τ := updT σ.τ s (x.read σ).stripB } := by
 have e : spendAll [x] σ = σ := spend_noSteal (by simp [anySteals, hx])
 show goOp c _ σ = _
 rw [goOp_eq]
 show some (Dst.put (.t s) (x.read σ) { spendAll [x] σ with st := σ.st }) = _
 rw [e]
 rfl
theorem opK_good {G : β → Prop} {nv dep : Nat} {sc : Scope} {tss : List Nat} {o : AOper} {e : β} {Q0 : Scope → β} {Q : OpF → Nat → Scope → β} (hn : nv ≤ 64) (he : G e) (h0 : ∀ sc', AlOK nv dep sc o sc' → G (Q0 sc'))
 (h : ∀ opf dep' sc', OpOK nv dep sc o opf dep' sc' → G (Q opf dep' sc')) : G (opK nv dep sc tss o e Q0 Q) := by
 unfold opK
 split
 · rename_i s s' hal
   have ho : o = ⟨.t s, .mv, [.t s'], none, none⟩ := by
    unfold aliasOf at hal
    split at hal <;> first | (cases hal; rfl) | cases hal
   subst ho
   have go : ∀ y, (∀ env fr σ, Ag nv dep sc env fr σ → SrcOK env (σ.τ s').weak y) → AlOK nv dep sc ⟨.t s, .mv, [.t s'], none, none⟩ ((s, y) :: sc) := fun y hy c env fr σ ha => by
    refine ⟨_, step_alias c s (.t s') rfl σ, alias_put ha s _ y ?_, rfl⟩
    show SrcOK env ((σ.τ s').weak).stripB y
    rw [nb_weak (ha.nb s')]
    exact hy env fr σ ha
   split
   · rename_i l hs
     exact h0 _ (go _ fun env fr σ ha => by obtain ⟨a, h1, h2⟩ := ha.t _ _ hs; exact ⟨a, h1, by rw [weak_weak, h2]⟩)
   · rename_i l hs
     exact h0 _ (go _ fun env fr σ ha => by obtain ⟨a, h1, h2⟩ := ha.t _ _ hs; exact ⟨a, h1, by rw [weak_weak, h2]⟩)
   · rename_i l hs
     exact h0 _ (go _ fun env fr σ ha => by obtain ⟨a, h1, h2⟩ := ha.t _ _ hs; exact ⟨a, h1, by rw [weak_weak, h2]⟩)
   · rename_i a hs
     exact h0 _ (go _ fun env fr σ ha => by
      have := ha.t _ _ hs
      show (σ.τ s').weak.weak = a.weak
      rw [weak_weak, show σ.τ s' = a from this])
   · rename_i a hs
     exact h0 _ (go _ fun env fr σ ha => by
      have := ha.t _ _ hs
      show (σ.τ s').weak.weak = a
      rw [weak_weak]
      exact this)
   · exact he
 · rename_i s a hal
   have ho : o = ⟨.t s, .mv, [.c a], none, none⟩ := by
    unfold aliasOf at hal
    split at hal <;> first | (cases hal; rfl) | cases hal
   subst ho
   exact h0 _ fun c env fr σ ha => ⟨_, step_alias c s (.c a) rfl σ, alias_put ha s _ _ rfl, rfl⟩
 · refine rdL_good hn he fun rs hrs => kindK_good fun kf hkf => coreK_good hn hrs hkf he fun cf hcf => dstK_good hn he fun pf dep' sc' hpf => ?_
   have body : ∀ c env fr st σ, Ag nv dep sc env fr σ → σ.st = st → ∀ (k : List AV → Fr → St → RO) out, (cf c env fr st fun r fr s => pf r env fr s k) = some out →
    ∃ σ' env' fr', goOp c o σ = some σ' ∧ Ag nv dep' sc' env' fr' σ' ∧ k env' fr' σ'.st = some out := fun c env fr st σ ha hst k out hout => by
    obtain ⟨r, b, st', fr', h1, h2, h3⟩ := hcf c env fr st σ ha hst _ out hout
    obtain ⟨e1, e2, e3, e4⟩ := spendS_ok (xs := o.args) (σ := σ) ha.t ha.nb
    let σ1 : Sig := match o.box with
     | some i => { spendAll o.args σ with fr := (spendAll o.args σ).fr.set i b, st := st' }
     | none => { spendAll o.args σ with st := st' }
    have hfr : σ1.fr = toL nv fr' := by
     rw [← h3]; simp only [σ1]; cases o.box <;> rfl
    have hτ : σ1.τ = (spendAll o.args σ).τ := by simp only [σ1]; cases o.box <;> rfl
    have hs1 : σ1.st = st' := by simp only [σ1]; cases o.box <;> rfl
    obtain ⟨env2, fr2, g1, g2, g3⟩ := hpf r env fr' st' k out h2 σ1 hfr ha.d (by rw [hτ]; exact e3) (by rw [hτ]; exact e2) hs1
    refine ⟨_, env2, fr2, ?_, g2, by rw [g3]; exact g1⟩
    rw [goOp_eq, hst]
    simp only [σ1]
    cases hb : o.box <;> rw [hb] at h1 <;> dsimp only at h1 ⊢ <;> rw [h1]
   split
   · rename_i hg
     refine h _ _ _ fun c env fr st σ ha hst k out hout => ?_
     unfold stepOp
     rw [hg]
     exact body c env fr st σ ha hst k out hout
   · rename_i x w hg
     refine rdK_good hn he fun g hgr => h _ _ _ fun c env fr st σ ha hst k out hout => ?_
     rw [hgr env fr σ ha, qGd_eq] at hout
     unfold stepOp
     rw [hg]
     dsimp only
     have skip : pf (.tuple []) env fr st k = some out → ∃ σ' env' fr', some (o.dst.put (.tuple []) σ) = some σ' ∧ Ag nv dep' sc' env' fr' σ' ∧ k env' fr' σ'.st = some out := fun hout => by
      obtain ⟨env2, fr2, g1, g2, g3⟩ := hpf _ env fr st k out hout σ ha.f ha.d ha.nb (spendS_ok (xs := o.args) (σ := σ) ha.t ha.nb).1 hst
      exact ⟨_, env2, fr2, rfl, g2, by rw [g3]; exact g1⟩
     cases hx : x.read σ <;> rw [hx] at hout <;> (try dsimp only at hout ⊢) <;> try cases hout
     · rename_i b
       split at hout
       · rename_i hbw; rw [if_pos hbw]; exact body c env fr st σ ha hst k out hout
       · rename_i hbw; rw [if_neg hbw]; exact skip hout
     · rename_i vs
       cases vs with
       | nil => exact skip hout
       | cons => cases hout
end

noncomputable def compOps (nv : Nat) (tss : List Nat) (cond : Opd) (ops : List AOper) : Nat → Scope → Clo := List.rec (motive := fun _ => Nat → Scope → Clo)
 (fun dep sc => rdK nv dep sc cond stuckC fun r => .mk fun c env fr st => r env fr fun x => some (x, fr, st))
 (fun o _ ih dep sc => opK nv dep sc tss o stuckC (fun sc' => ih dep sc') fun opf dep' sc' => .mk fun c env fr st => opf c env fr st fun env fr st => (ih dep' sc').run c env fr st) ops
def RegOK (nv dep : Nat) (sc : Scope) (cond : Opd) (ops : List AOper) (x : Clo) : Prop := ∀ c env fr st σ v fr' st', Ag nv dep sc env fr σ → σ.st = st → x.run c env fr st = some (v, fr', st') →
 ∃ σ', runOps c ops σ = some σ' ∧ σ'.fr = toL nv fr' ∧ σ'.st = st' ∧ cond.read σ' = v
theorem stuck_ok {nv dep : Nat} {sc : Scope} {cond : Opd} {ops : List AOper} : RegOK nv dep sc cond ops stuckC := fun c env fr st σ v fr' st' ha hst h => by cases (show (none : RO) = some _ from h)
theorem compOps_ok {nv : Nat} (hn : nv ≤ 64) {tss : List Nat} {cond : Opd} : ∀ (ops : List AOper) (dep : Nat) (sc : Scope), RegOK nv dep sc cond ops (compOps nv tss cond ops dep sc)
 | [], dep, sc => by
  show RegOK nv dep sc cond [] (rdK nv dep sc cond stuckC fun r => .mk fun c env fr st => r env fr fun x => some (x, fr, st))
  refine rdK_good (G := RegOK nv dep sc cond []) hn stuck_ok fun r hr c env fr st σ v fr' st' ha hst h => ?_
  have h : r env fr (fun x => some (x, fr, st)) = some (v, fr', st') := h
  rw [hr env fr σ ha] at h
  cases h
  exact ⟨σ, rfl, ha.f, hst, rfl⟩
 | o :: ops, dep, sc => by
  show RegOK nv dep sc cond (o :: ops) (opK nv dep sc tss o stuckC (fun sc' => compOps nv tss cond ops dep sc') fun opf dep' sc' => .mk fun c env fr st => opf c env fr st fun env fr st => (compOps nv tss cond ops dep' sc').run c env fr st)
  refine opK_good (G := RegOK nv dep sc cond (o :: ops)) hn stuck_ok (fun sc' hal c env fr st σ v fr' st' ha hst h => ?_) fun opf dep' sc' ho c env fr st σ v fr' st' ha hst h => ?_
  · obtain ⟨σ1, h1, h2, h3⟩ := hal c env fr σ ha
    obtain ⟨σ2, g1, g2⟩ := compOps_ok hn ops dep sc' c env fr st σ1 v fr' st' h2 (h3.trans hst) h
    exact ⟨σ2, by rw [runOps, h1]; exact g1, g2⟩
  · obtain ⟨σ1, env1, fr1, h1, h2, h3⟩ := ho c env fr st σ ha hst _ _ h
    obtain ⟨σ2, g1, g2⟩ := compOps_ok hn ops dep' sc' c env1 fr1 σ1.st σ1 v fr' st' h2 rfl h3
    exact ⟨σ2, by rw [runOps, h1]; exact g1, g2⟩
end Go.Cb.G
/-
 THE ABSTRACT MACHINE, part 46: code and functions, made ready once; what they answer is the machine's answer.
-/
set_option maxRecDepth 4000
set_option linter.unusedVariables false
namespace Go.Cb.G
open Go Go.Cb
/-! regions -/
noncomputable def killC (nv : Nat) (kill : List Nat) (Q : (Fr → (Fr → RO) → RO) → Clo) : Clo := List.rec (motive := fun _ => ((Fr → (Fr → RO) → RO) → Clo) → Clo) (fun Q => Q fun fr k => k fr)
 (fun i _ ih Q => Bool.rec (motive := fun _ => Clo) (ih Q) (putC i stuckC fun p => ih fun r => Q fun fr k => p .undef fr fun fr => r fr k) (Nat.blt i nv)) kill Q
def tsL : List Opd → List Nat
 | [] => []
 | .ts s :: xs => s :: tsL xs
 | _ :: xs => tsL xs
def tsAll : List AOper → List Nat
 | [] => []
 | o :: os => match tsL o.args with
  | [] => tsAll os
  | l => l ++ tsAll os
noncomputable def compR (nv : Nat) (kill : List Nat) (ops : List AOper) (cond : Opd) : Clo :=
 killC nv kill fun kf => .mk fun c _ fr st => kf fr fun fr => (compOps nv (tsL [cond] ++ tsAll ops) cond ops 0 []).run c [] fr st
theorem killC_good {G : Clo → Prop} {nv : Nat} (hn : nv ≤ 64) (hs : G stuckC) : ∀ {kill : List Nat} {Q : (Fr → (Fr → RO) → RO) → Clo}, (∀ r : Fr → (Fr → RO) → RO, (∀ fr, ∃ fr', (∀ k, r fr k = k fr') ∧ killAll kill (toL nv fr) = toL nv fr') → G (Q r)) → G (killC nv kill Q)
 | [], Q, h => h _ fun fr => ⟨fr, fun _ => rfl, rfl⟩
 | i :: is, Q, h => by
  show G (Bool.rec (motive := fun _ => Clo) (killC nv is Q) (putC i stuckC fun p => killC nv is fun r => Q fun fr k => p .undef fr fun fr => r fr k) (Nat.blt i nv))
  cases hb : Nat.blt i nv with
  | false =>
   have hi : ¬ i < nv := fun q => by rw [show Nat.blt i nv = true by simpa using q] at hb; cases hb
   exact killC_good hn hs (kill := is) fun r hr => h r fun fr => by
    obtain ⟨fr', h1, h2⟩ := hr fr
    exact ⟨fr', h1, by rw [killAll, toL_set_out hi]; exact h2⟩
  | true =>
   have hi := blt_lt hb
   exact putC_good (by omega) hs fun p hp => killC_good hn hs (kill := is) fun r hr => h _ fun fr => by
    obtain ⟨fr', h1, h2⟩ := hr (frSet i .undef fr)
    exact ⟨fr', fun k => by show p .undef fr _ = _; rw [hp, h1], by rw [killAll, toL_set hi hn]; exact h2⟩
def RegGood (nv : Nat) (kill : List Nat) (ops : List AOper) (cond : Opd) (x : Clo) : Prop := ∀ c env fr st v fr' st', x.run c env fr st = some (v, fr', st') →
 ∃ σ', runOps c ops ⟨killAll kill (toL nv fr), fun _ => .undef, st⟩ = some σ' ∧ σ'.fr = toL nv fr' ∧ σ'.st = st' ∧ cond.read σ' = v
theorem compR_ok {nv : Nat} (hn : nv ≤ 64) {kill : List Nat} {ops : List AOper} {cond : Opd} : RegGood nv kill ops cond (compR nv kill ops cond) := by
 refine killC_good (G := RegGood nv kill ops cond) hn (fun c env fr st v fr' st' h => by cases (show (none : RO) = some _ from h)) fun r hr c env fr st v fr' st' h => ?_
 obtain ⟨fr1, h1, h2⟩ := hr fr
 have h : r fr _ = _ := h
 rw [h1] at h
 exact compOps_ok hn ops 0 [] c [] fr1 st ⟨killAll kill (toL nv fr), fun _ => .undef, st⟩ v fr' st' ⟨h2, rfl, fun _ => rfl, fun s x hx => by cases (show (none : Option Src) = some x from hx)⟩ rfl h

/-! code -/
abbrev CO := Option (Ex × Fr × St)
inductive CloC where
 | mk (f : CallT → Nat → Fr → St → CO)
noncomputable def CloC.run (x : CloC) : CallT → Nat → Fr → St → CO := CloC.rec (motive := fun _ => CallT → Nat → Fr → St → CO) (fun f => f) x
section
variable {ρ : Type}
noncomputable def onRO (x : RO) (k : AV → Fr → St → Option ρ) : Option ρ := Option.rec (motive := fun _ => Option ρ) none (fun p => Prod.rec (motive := fun _ => Option ρ) (fun v q => Prod.rec (motive := fun _ => Option ρ) (fun fr st => k v fr st) q) p) x
noncomputable def onCO (x : CO) (k : Ex → Fr → St → Option ρ) : Option ρ := Option.rec (motive := fun _ => Option ρ) none (fun p => Prod.rec (motive := fun _ => Option ρ) (fun v q => Prod.rec (motive := fun _ => Option ρ) (fun fr st => k v fr st) q) p) x
noncomputable def onExG (e : Ex) (n : Option ρ) (x : Nat → Option ρ) (r : Option ρ) : Option ρ := Ex.rec (motive := fun _ => Option ρ) n x r e
theorem onRO_some {x : RO} {k : AV → Fr → St → Option ρ} {r : ρ} (h : onRO x k = some r) : ∃ v fr st, x = some (v, fr, st) ∧ k v fr st = some r := by
 cases x with
 | none => cases h
 | some p => obtain ⟨v, fr, st⟩ := p; exact ⟨v, fr, st, rfl, h⟩
theorem onCO_some {x : CO} {k : Ex → Fr → St → Option ρ} {r : ρ} (h : onCO x k = some r) : ∃ v fr st, x = some (v, fr, st) ∧ k v fr st = some r := by
 cases x with
 | none => cases h
 | some p => obtain ⟨v, fr, st⟩ := p; exact ⟨v, fr, st, rfl, h⟩
end
noncomputable def loopG (b : CallT → Nat → Fr → St → CO) (c : CallT) (n m : Nat) : Fr → St → CO := Nat.rec (motive := fun _ => Fr → St → CO) (fun _ _ => none) (fun _ ih fr st => onCO (b c n fr st) fun e fr st => onExG e (ih fr st) (fun i => some (.exit i, fr, st)) (some (.ret, fr, st))) m
def killFr (nv : Nat) : List Nat → Fr → Fr
 | [], fr => fr
 | i :: is, fr => killFr nv is (if i < nv then frSet i .undef fr else fr)
theorem killFr_ok {nv : Nat} (hn : nv ≤ 64) : ∀ {is : List Nat} {fr : Fr}, killAll is (toL nv fr) = toL nv (killFr nv is fr)
 | [], fr => rfl
 | i :: is, fr => by
  rw [killAll, killFr]
  split
  · rename_i h; rw [toL_set h hn]; exact killFr_ok hn
  · rename_i h; rw [toL_set_out h]; exact killFr_ok hn
noncomputable def agreeG (nv : Nat) (kill : List Nat) (x y : CO) : CO := onCO x fun e fr st => onCO y fun e' fr' st' =>
 if eqOut (killOut kill (e, toL nv fr, st)) (killOut kill (e', toL nv fr', st')) then some (e, killFr nv kill fr, st) else none
noncomputable def compC (nv : Nat) (x : ACode) : CloC := ACode.rec (motive := fun _ => CloC)
 (.mk fun _ _ fr st => some (.normal, fr, st))
 (fun kill ops => .mk fun c _ fr st => onRO ((compR nv kill ops (.c .undef)).run c [] fr st) fun _ fr st => some (.normal, fr, st))
 (fun kill ops x _ _ a b => .mk fun c n fr st => onRO ((compR nv kill ops x).run c [] fr st) fun v fr st => onB v none fun y => Bool.rec (motive := fun _ => CO) (b.run c n fr st) (a.run c n fr st) y)
 (fun _ _ a b => .mk fun c n fr st => onCO (a.run c n fr st) fun e fr st => onExG e (b.run c n fr st) (fun i => some (.exit i, fr, st)) (some (.ret, fr, st)))
 (fun id _ a => .mk fun c n fr st => onCO (a.run c n fr st) fun e fr st => onExG e (some (.normal, fr, st)) (fun i => Bool.rec (motive := fun _ => CO) (some (.exit i, fr, st)) (some (.normal, fr, st)) (Nat.beq i id)) (some (.ret, fr, st)))
 (fun _ a => .mk fun c n fr st => loopG (fun c n fr st => a.run c n fr st) c n n fr st)
 (fun kill _ _ a b => .mk fun c n fr st => agreeG nv kill (a.run c n fr st) (b.run c n fr st))
 (fun id => .mk fun _ _ fr st => some (.exit id, fr, st))
 (.mk fun _ _ fr st => some (.ret, fr, st)) x
def CodeOKG (nv : Nat) (x : ACode) (y : CloC) : Prop := ∀ c n fr st e fr' st', y.run c n fr st = some (e, fr', st') → exec c n x (toL nv fr) st = some (e, toL nv fr', st')
theorem loopG_ok {nv : Nat} {a : ACode} {b : CallT → Nat → Fr → St → CO} {c : CallT} {n : Nat} (h : ∀ fr st e fr' st', b c n fr st = some (e, fr', st') → exec c n a (toL nv fr) st = some (e, toL nv fr', st')) : ∀ (m : Nat) (fr : Fr) (st : St) (e : Ex) (fr' : Fr) (st' : St), loopG b c n m fr st = some (e, fr', st') → iter (exec c n a) m (toL nv fr) st = some (e, toL nv fr', st')
 | 0, fr, st, e, fr', st', hs => by cases (show (none : CO) = some _ from hs)
 | m + 1, fr, st, e, fr', st', hs => by
  obtain ⟨e1, fr1, st1, h1, h2⟩ := onCO_some (show onCO (b c n fr st) (fun e fr st => onExG e (loopG b c n m fr st) (fun i => some (.exit i, fr, st)) (some (.ret, fr, st))) = some (e, fr', st') from hs)
  rw [iter, h _ _ _ _ _ h1]
  cases e1 with
  | normal => exact loopG_ok h m fr1 st1 e fr' st' h2
  | exit i => cases (show some (Ex.exit i, fr1, st1) = some (e, fr', st') from h2); rfl
  | ret => cases (show some (Ex.ret, fr1, st1) = some (e, fr', st') from h2); rfl
theorem compC_ok {nv : Nat} (hn : nv ≤ 64) : ∀ x : ACode, CodeOKG nv x (compC nv x)
 | .skip, c, n, fr, st, e, fr', st', h => by cases (show some (Ex.normal, fr, st) = some (e, fr', st') from h); rfl
 | .ret, c, n, fr, st, e, fr', st', h => by cases (show some (Ex.ret, fr, st) = some (e, fr', st') from h); rfl
 | .exit id, c, n, fr, st, e, fr', st', h => by cases (show some (Ex.exit id, fr, st) = some (e, fr', st') from h); rfl
 | .reg kill ops, c, n, fr, st, e, fr', st', h => by
  obtain ⟨v, fr1, st1, h1, h2⟩ := onRO_some (show onRO ((compR nv kill ops (.c .undef)).run c [] fr st) (fun _ fr st => some (Ex.normal, fr, st)) = some (e, fr', st') from h)
  cases h2
  obtain ⟨σ, g1, g2, g3, g4⟩ := compR_ok hn _ _ _ _ _ _ _ h1
  rw [exec, g1]
  simp only [fL_eq, g2, g3]
 | .test kill ops x a b, c, n, fr, st, e, fr', st', h => by
  obtain ⟨v, fr1, st1, h1, h2⟩ := onRO_some (show onRO ((compR nv kill ops x).run c [] fr st) (fun v fr st => onB v none fun y => Bool.rec (motive := fun _ => CO) ((compC nv b).run c n fr st) ((compC nv a).run c n fr st) y) = some (e, fr', st') from h)
  obtain ⟨σ, g1, g2, g3, g4⟩ := compR_ok hn _ _ _ _ _ _ _ h1
  rw [onB_eq] at h2
  rw [exec, g1]
  dsimp only
  rw [g4]
  cases v <;> try (cases h2; done)
  rename_i y
  cases y
  · simp only [fL_eq, g2, g3]; exact compC_ok hn b _ _ _ _ _ _ _ h2
  · simp only [fL_eq, g2, g3]; exact compC_ok hn a _ _ _ _ _ _ _ h2
 | .seq a b, c, n, fr, st, e, fr', st', h => by
  obtain ⟨e1, fr1, st1, h1, h2⟩ := onCO_some (show onCO ((compC nv a).run c n fr st) (fun e fr st => onExG e ((compC nv b).run c n fr st) (fun i => some (.exit i, fr, st)) (some (.ret, fr, st))) = some (e, fr', st') from h)
  rw [exec, compC_ok hn a _ _ _ _ _ _ _ h1]
  cases e1 with
  | normal => exact compC_ok hn b _ _ _ _ _ _ _ h2
  | exit i => cases (show some (Ex.exit i, fr1, st1) = some (e, fr', st') from h2); rfl
  | ret => cases (show some (Ex.ret, fr1, st1) = some (e, fr', st') from h2); rfl
 | .blk id a, c, n, fr, st, e, fr', st', h => by
  obtain ⟨e1, fr1, st1, h1, h2⟩ := onCO_some (show onCO ((compC nv a).run c n fr st) (fun e fr st => onExG e (some (.normal, fr, st)) (fun i => Bool.rec (motive := fun _ => CO) (some (.exit i, fr, st)) (some (.normal, fr, st)) (Nat.beq i id)) (some (.ret, fr, st))) = some (e, fr', st') from h)
  rw [exec, compC_ok hn a _ _ _ _ _ _ _ h1]
  cases e1 with
  | normal => cases (show some (Ex.normal, fr1, st1) = some (e, fr', st') from h2); rfl
  | exit i =>
   have h2 : Bool.rec (motive := fun _ => CO) (some (.exit i, fr1, st1)) (some (.normal, fr1, st1)) (Nat.beq i id) = some (e, fr', st') := h2
   dsimp only
   cases hb : Nat.beq i id with
   | true => rw [hb] at h2; cases h2; rw [if_pos (Nat.eq_of_beq_eq_true hb)]
   | false => rw [hb] at h2; cases h2; rw [if_neg (Nat.ne_of_beq_eq_false hb)]
  | ret => cases (show some (Ex.ret, fr1, st1) = some (e, fr', st') from h2); rfl
 | .loop a, c, n, fr, st, e, fr', st', h => by
  rw [exec]
  exact loopG_ok (b := fun c n fr st => (compC nv a).run c n fr st) (fun fr st e fr' st' h => compC_ok hn a _ _ _ _ _ _ _ h) n fr st e fr' st' h
 | .either kill a b, c, n, fr, st, e, fr', st', h => by
  have h : agreeG nv kill ((compC nv a).run c n fr st) ((compC nv b).run c n fr st) = some (e, fr', st') := h
  obtain ⟨e1, fr1, st1, h1, h2⟩ := onCO_some h
  obtain ⟨e2, fr2, st2, h3, h4⟩ := onCO_some h2
  rw [exec, compC_ok hn a _ _ _ _ _ _ _ h1, compC_ok hn b _ _ _ _ _ _ _ h3]
  unfold agree
  split at h4
  · rename_i hq
    cases h4
    dsimp only
    rw [if_pos hq]
    show some (_, killAll kill (toL nv fr1), _) = _
    rw [killFr_ok hn]
  · cases h4

/-! functions -/
inductive FnC where
 | mk (f : CallT → Nat → List AV → St → Option (AV × St))
noncomputable def FnC.run (x : FnC) : CallT → Nat → List AV → St → Option (AV × St) := FnC.rec (motive := fun _ => CallT → Nat → List AV → St → Option (AV × St)) (fun f => f) x
noncomputable def stuckF : FnC := .mk fun _ _ _ _ => none
noncomputable def resC (nv : Nat) (r : ResK) (Q : Gt (AV × St) → FnC) : FnC :=
 match r with
 | .v i => match Nat.blt i nv with
  | true => getC i stuckF fun g => Q fun fr k => g fr fun x => qWk x k
  | false => stuckF
 | .vs i => match Nat.blt i nv with
  | true => getC i stuckF fun g => Q g
  | false => stuckF
 | .bx i agg n => match Nat.blt i nv with
  | true => getC i stuckF fun g => Q fun fr k => g fr fun x => onBx x none fun cs => qTake k agg n cs
  | false => stuckF
theorem resC_good {G : FnC → Prop} {nv : Nat} (hn : nv ≤ 64) (hs : G stuckF) {r : ResK} {Q : Gt (AV × St) → FnC} (h : ∀ g : Gt (AV × St), (∀ fr k out, g fr k = some out → ∃ v, r.get (toL nv fr) = some v ∧ k v = some out) → G (Q g)) : G (resC nv r Q) := by
 unfold resC
 cases r with
 | v i =>
  dsimp only
  cases hb : Nat.blt i nv with
  | false => exact hs
  | true =>
   have hi := blt_lt hb
   refine getC_good (by omega) hs fun g hg => h _ fun fr k out ho => ?_
   rw [hg, qWk_eq] at ho
   exact ⟨_, by rw [ResK.get, toL_get hi], ho⟩
 | vs i =>
  dsimp only
  cases hb : Nat.blt i nv with
  | false => exact hs
  | true =>
   have hi := blt_lt hb
   refine getC_good (by omega) hs fun g hg => h _ fun fr k out ho => ?_
   rw [hg] at ho
   exact ⟨_, by rw [ResK.get, toL_get hi], ho⟩
 | bx i agg n =>
  dsimp only
  cases hb : Nat.blt i nv with
  | false => exact hs
  | true =>
   have hi := blt_lt hb
   refine getC_good (by omega) hs fun g hg => h _ fun fr k out ho => ?_
   rw [hg, onBx_eq] at ho
   rw [ResK.get, toL_get hi]
   cases hx : frGet i fr <;> rw [hx] at ho <;> try (cases ho; done)
   rename_i cs
   dsimp only at ho ⊢
   rw [qTake_eq] at ho
   cases ht : takeVal agg n cs with
   | none => rw [ht] at ho; cases ho
   | some v => rw [ht] at ho; exact ⟨v, rfl, ho⟩
noncomputable def resL (nv : Nat) : List ResK → ((Fr → (List AV → Option (AV × St)) → Option (AV × St)) → FnC) → FnC
 | [], Q => Q fun _ k => k []
 | r :: rs, Q => resC nv r fun g => resL nv rs fun gs => Q fun fr k => g fr fun v => gs fr fun vs => k (v :: vs)
theorem resL_good {G : FnC → Prop} {nv : Nat} (hn : nv ≤ 64) (hs : G stuckF) : ∀ {rs : List ResK} {Q : (Fr → (List AV → Option (AV × St)) → Option (AV × St)) → FnC}, (∀ g : Fr → (List AV → Option (AV × St)) → Option (AV × St), (∀ fr k out, g fr k = some out → ∃ vs, getAll rs (toL nv fr) = some vs ∧ k vs = some out) → G (Q g)) → G (resL nv rs Q)
 | [], Q, h => h _ fun fr k out ho => ⟨[], rfl, ho⟩
 | r :: rs, Q, h => by
  unfold resL
  exact resC_good hn hs fun g hg => resL_good hn hs fun gs hgs => h _ fun fr k out ho => by
   obtain ⟨v, h1, h2⟩ := hg fr _ _ ho
   obtain ⟨vs, h3, h4⟩ := hgs fr _ _ h2
   exact ⟨v :: vs, by rw [getAll, h1, h3], h4⟩
noncomputable def ansG (vs : List AV) (st : St) : Option (AV × St) := List.rec (motive := fun _ => Option (AV × St)) (some (.tuple [], st)) (fun v ws _ => List.rec (motive := fun _ => Option (AV × St)) (some (v, st)) (fun _ _ _ => some (.tuple vs, st)) ws) vs
noncomputable def bodyC (fn : AFn) : FnC := match Nat.ble fn.nv 64 && Nat.ble fn.np fn.nv with
 | true => resL fn.nv fn.results fun g => .mk fun c n as st => Bool.rec (motive := fun _ => Option (AV × St)) none (argW as fun w => onCO ((compC fn.nv fn.code).run c n (fr0 w) st) fun e fr st => onExG e (g fr fun vs => ansG vs st) (fun _ => none) (g fr fun vs => ansG vs st)) (Nat.beq (lenF as) fn.np)
 | false => stuckF
noncomputable def fnC (x : Option AFn) : FnC := match x with
 | none => stuckF
 | some fn => match fn.ext with
  | some e => .mk fun _ _ as st => e as st
  | none => bodyC fn
theorem ansG_eq {vs : List AV} {st : St} : ansG vs st = (match (some vs : Option (List AV)) with | some [v] => some (v, st) | some vs => some (.tuple vs, st) | none => none) := by
 match vs with
 | [] => rfl
 | [_] => rfl
 | _ :: _ :: _ => rfl
def FnGood (fn : AFn) (x : FnC) : Prop := ∀ c n as st out, x.run c n as st = some out → fn.run c n as st = some out
theorem bodyC_ok (fn : AFn) : FnGood fn (bodyC fn) := by
 have hs : FnGood fn stuckF := fun c n as st out h => by cases (show (none : Option (AV × St)) = some _ from h)
 unfold bodyC
 cases hb : Nat.ble fn.nv 64 && Nat.ble fn.np fn.nv with
 | false => exact hs
 | true =>
  simp only [Bool.and_eq_true, Nat.ble_eq] at hb
  refine resL_good hb.1 hs fun g hg c n as st out h => ?_
  have h : Bool.rec (motive := fun _ => Option (AV × St)) none (argW as fun w => onCO ((compC fn.nv fn.code).run c n (fr0 w) st) fun e fr st => onExG e (g fr fun vs => ansG vs st) (fun _ => none) (g fr fun vs => ansG vs st)) (Nat.beq (lenF as) fn.np) = some out := h
  cases hl : Nat.beq (lenF as) fn.np with
  | false => rw [hl] at h; cases h
  | true =>
   rw [hl] at h
   have hl := Nat.eq_of_beq_eq_true hl
   rw [lenF_eq] at hl
   obtain ⟨w, h1, h2, h3⟩ := argW_ok h
   obtain ⟨e, fr', st', h4, h5⟩ := onCO_some h1
   have h6 := compC_ok hb.1 fn.code _ _ _ _ _ _ _ h4
   rw [fr0_ok h3 hl h2 hb.2 hb.1] at h6
   unfold AFn.run
   rw [if_pos hl, h6]
   have fin : (g fr' fun vs => ansG vs st') = some out → (match getAll fn.results (toL fn.nv fr') with | some [v] => some (v, st') | some vs => some (.tuple vs, st') | none => none) = some out := fun h => by
    obtain ⟨vs, h7, h8⟩ := hg fr' _ _ h
    rw [h7, ← h8, ansG_eq]
   cases e with
   | normal => exact fin h5
   | exit i => cases (show (none : Option (AV × St)) = some _ from h5)
   | ret => exact fin h5

noncomputable def callG (tbl : Nat → Option AFn) (n : Nat) : CallT := Nat.rec (motive := fun _ => CallT) (fun _ _ _ => none) (fun n ih f as st => (fnC (tbl f)).run ih n as st) n
theorem callG_le {tbl : Nat → Option AFn} : ∀ n, CallLe (callG tbl n) (callF tbl n)
 | 0, f, as, st, r, h => by cases (show (none : Option (AV × St)) = some _ from h)
 | n + 1, f, as, st, r, h => by
  have h : (fnC (tbl f)).run (callG tbl n) n as st = some r := h
  unfold callF
  cases ht : tbl f with
  | none => rw [ht] at h; cases (show (none : Option (AV × St)) = some _ from h)
  | some fn =>
   rw [ht] at h
   unfold fnC at h
   dsimp only at h ⊢
   cases he : fn.ext with
   | some e => rw [he] at h; exact h
   | none =>
    rw [he] at h
    exact run_le (callG_le n) (Nat.le_refl _) (bodyC_ok fn _ _ _ _ _ h)
theorem ev_ofG {tbl : Nat → Option AFn} {k f : Nat} {as : List AV} {st : St} {r : AV} {st' : St} (h : callG tbl k f as st = some (r, st')) : Ev tbl f as st r st' := ⟨k, callG_le k _ _ _ _ h⟩
end Go.Cb.G
/-
 THE ABSTRACT MACHINE, part 47: a law's own code, step by step, over calls of which the answers are known.
-/
set_option maxRecDepth 4000
set_option linter.unusedVariables false
namespace Go.Cb.G
open Go Go.Cb
def N : CallT := fun _ _ _ => none
def sp (kill : List Nat) (ops : List AOper) (i : Nat) (fr : List AV) (st : St) : Option (Sig × AOper × List AOper) := match runOps N (ops.take i) ⟨killAll kill fr, fun _ => .undef, st⟩, ops.drop i with
 | some σ, o :: os => some (σ, o, os)
 | _, _ => none
def after (kill : List Nat) (ops : List AOper) (i : Nat) (x : Opd) (fr : List AV) (st : St) (r : AV) (st1 : St) : Option (AV × List AV × St) := match sp kill ops i fr st with
 | some (σ, o, os) => match runOps N os (o.dst.put r { spendAll o.args σ with st := st1 }) with
  | some σ => some (x.read σ, σ.fr, σ.st)
  | none => none
 | none => none
section
variable {tbl : Nat → Option AFn}
theorem xc_G {code : ACode} {k : Nat} {fr : List AV} {st : St} {out : Out} (h : exec (callG tbl k) k code fr st = some out) : XC tbl code fr st out := ⟨k, exec_le (callG_le k) (Nat.le_refl _) h⟩
def fin (rs : List ResK) (o : Option Out) : Option (AV × St) := match o with
 | some (.exit _, _, _) => none
 | some (_, fr, st) => match getAll rs fr with
  | some [v] => some (v, st)
  | some vs => some (.tuple vs, st)
  | none => none
 | none => none
def fst' (x : Option (AV × St)) : Option AV := match x with
 | some (v, _) => some v
 | none => none
def FX (tbl : Nat → Option AFn) (rs : List ResK) (code : ACode) (fr : List AV) (st : St) (v : AV) : Prop := ∃ out st', XC tbl code fr st out ∧ fin rs (some out) = some (v, st')
theorem FX.seq {rs : List ResK} {a b : ACode} {fr fr1 : List AV} {st st1 : St} {v : AV} (h : XC tbl a fr st (.normal, fr1, st1)) (h' : FX tbl rs b fr1 st1 v) : FX tbl rs (.seq a b) fr st v := by
 obtain ⟨⟨e, fr', st'⟩, s, h1, h2⟩ := h'
 exact ⟨_, s, XC.seq h h1, h2⟩
theorem FX.G {rs : List ResK} {code : ACode} {k : Nat} {fr : List AV} {st : St} {v : AV} (h : fst' (fin rs (exec (callG tbl k) k code fr st)) = some v) : FX tbl rs code fr st v := by
 cases hz : exec (callG tbl k) k code fr st with
 | none => rw [hz] at h; cases h
 | some o =>
  rw [hz] at h
  cases hf : fin rs (some o) with
  | none => rw [hf] at h; cases h
  | some p =>
   obtain ⟨w, s⟩ := p
   rw [hf] at h
   cases (show some w = some v from h)
   exact ⟨o, s, xc_G hz, hf⟩
theorem FX.run {rs : List ResK} {code : ACode} {fr : List AV} {st : St} {v : AV} {f : Nat} {fn : AFn} {as : List AV} (htb : tbl f = some fn) (he : fn.ext = none) (hl : as.length = fn.np) (hr : fn.results = rs) (hc : fn.code = code)
 (hfr : as ++ List.replicate (fn.nv - fn.np) .undef = fr) (h : FX tbl rs code fr st v) : ∃ n st', callF tbl n f as st = some (v, st') := by
 obtain ⟨⟨e, fr', st1⟩, s, ⟨n, h1⟩, h2⟩ := h
 refine ⟨n + 1, s, ?_⟩
 unfold callF
 rw [htb]
 dsimp only
 rw [he]
 dsimp only
 unfold AFn.run
 rw [if_pos hl, hc, hfr, h1, hr]
 cases e with
 | exit i => cases h2
 | normal => exact h2
 | ret => exact h2
end
end Go.Cb.G
