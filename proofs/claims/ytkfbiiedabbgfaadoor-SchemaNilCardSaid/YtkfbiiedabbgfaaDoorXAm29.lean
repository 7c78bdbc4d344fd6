/-
  THE ABSTRACT MACHINE, part 29: slices.Clone.
-/
import Derived.Test.YtkfbiiedabbgfaaDoorXAm27
set_option maxRecDepth 4000
set_option linter.unusedSimpArgs false
namespace Go.Cb
open Classical

section
variable {c : Cx} {g : Gh} {w : World} {pr : Nat → Option Pl} {bx : Nat → Nat} {σ : Sig} {a : Act} {o : Oper}

theorem S.alloc (h : S c g w pr bx σ a) (cs : Array Value) (T : TypeId) : S c g (w.alloc (.cells cs T)) pr bx σ a :=
  ⟨h.fr.evolve (Tr.alloc No h.st.cli (.cells cs T)), h.st.alloc (.cells cs T), h.gl.ext (Ext.alloc h.st.cli (.cells cs T)), fun b hb => h.fresh b (by simp at hb; omega), h.stA⟩

theorem slE_ok (fx : Fx c) (h : S c g w pr bx σ a) {t e : TypeId} {i : TypeInfo} {d : Dst} (ho : o.op = .buildSlice t 0 #[]) (hu : c.P.underlying t = some (.slice e)) (hi : c.P.info? e = some i) (hd : dstOK c o.dst d = true)
    {next : Act → World → Prop} {Q : Exit → Act → World → Prop} (hnext : Post c g w a (d.put (.list true []) σ) next) : o.wp c.P a w next Q := by
  have hrun : (execOp a.eval o).run c.P w = .ok (.value (.slice (some (ad w.heap.size 0)) 0 0)) (w.alloc (.cells #[] e)) := by
    have e0 : (Array.map (fun _ : Nat => (default : Value)) (Array.range 0)) = #[] := by apply Array.ext'; simp
    simp [execOp, ho, Instr.buildSlice, run_underlying hu, sizeOf, typeInfo, hi, Instr.fill, newRow, e0]
  unfold Oper.wp
  rw [hrun]
  refine hnext _ _ g pr bx (defers_put _ _ _) (put_ok fx (h.alloc _ _) hd (mine := No) (r := .list true []) ?_ fun _ x => x.elim) (Tr.alloc _ h.st.cli _)
  refine (show ValOK g _ No (.list true []) _ from ⟨?_, fun _ _ => .inl ⟨_, _, rfl⟩, fun _ e => (by cases e)⟩)
  simp only [Rel]
  exact ⟨_, 0, 0, rfl, rfl, Nat.le_refl _, fun _ => rfl, fun h => absurd rfl h⟩

/-- is a slice nil? -/
theorem nil_ok (fx : Fx c) (h : S c g w pr bx σ a) {t t' e : TypeId} {x : Operand} {d : Dst} {ad0 : Option Addr} {n cap : Nat} (ho : o.op = .binOp .eql t x (.const (.slice none 0 0)) t') (hu : c.P.underlying t = some (.slice e))
    (hx : a.eval x = .slice ad0 n cap) (hd : dstOK c o.dst d = true) {next : Act → World → Prop} {Q : Exit → Act → World → Prop} (hnext : Post c g w a (d.put (.bool ad0.isNone) σ) next) : o.wp c.P a w next Q := by
  have hrun : (execOp a.eval o).run c.P w = .ok (.value (.bool ad0.isNone)) w := by
    have hg : ∀ v : Value, (eqGuard .eql t x (.const (.slice none 0 0)) (.slice ad0 n cap) (.slice none 0 0)).run c.P w = .ok () w := fun _ => rfl
    have hy : a.eval (.const (.slice none 0 0)) = .slice none 0 0 := rfl
    have heq : (Op.equal t (.slice ad0 n cap) (.slice none 0 0)).run c.P w = .ok ad0.isNone w := by
      rw [equal_eq, Op.equalIn, Sem.run_bind, run_underlying hu, Result.andThen_ok]
      cases ad0 <;> rfl
    simp only [execOp, ho, hx, hy, hg (.bool true), binOp, Sem.run_bind, heq, Result.andThen_ok, Sem.run_pure]
  exact pure_op fx h hd (r := .bool ad0.isNone) hrun (show ValOK g w No (.bool ad0.isNone) (.bool ad0.isNone) from ValOK.mk' (by simp [Rel]) (by simp) (by simp)) hnext

theorem opAt {P : Program} {ops : Array Oper} {Q : Exit → Act → World → Prop} {i : Nat} {o : Oper} {K : Act → World → Prop} {a : Act} {w : World} (hi : ops[i]? = some o) (hg : o.guard = none) (h : o.wp P a w K Q) : wpOp P ops Q i K a w := by
  unfold wpOp
  simp only [hi]
  rw [if_pos (by simp [Region.wanted, hg])]
  exact .inl h

/-- its types -/
def cloneB (P : Program) (t sz bytes : Nat) : Bool := match P.underlying t with
  | some (.slice e) => match P.info? e with
    | some ie => ie.size == sz && ie.bytes == bytes && decide (0 < bytes) && (match ie.zero with | some z => z.cells.size == sz | none => false)
    | none => false
  | _ => false

/-- how slices.Clone is written -/
structure CloneShape (P : Program) (fn : Func) (t sz bytes : Nat) where
  i0 : Nat
  i1 : Nat
  i2 : Nat
  i3 : Nat
  o0 : Oper
  o1 : Oper
  o2 : Oper
  o3 : Oper
  o4 : Oper
  o5 : Oper
  o6 : Oper
  o7 : Oper
  ty : TypeId
  body : fn.body = some (.seq (.region i0 #[o0] false) (.seq (.seq (.region i1 #[o1, o2] false) (.cond (.tmp 4) (.seq (.region i2 #[o3] false) .ret) .skip)) (.seq (.region i3 #[o4, o5, o6, o7] false) .ret)))
  nt : fn.ntmps = 8
  res : fn.results = #[.tmp 2]
  d0 : o0.dst = some 2 ∧ o0.op = .assign (.const (.slice none 0 0)) ∧ o0.guard = none
  d1 : o1.dst = some 3 ∧ o1.op = .move (.tmp 0) ∧ o1.guard = none
  d2 : o2.dst = some 4 ∧ o2.op = .binOp .eql t (.tmp 3) (.const (.slice none 0 0)) ty ∧ o2.guard = none
  d3 : o3.dst = some 2 ∧ o3.op = .assign (.const (.slice none 0 0)) ∧ o3.guard = none
  d4 : o4.dst = some 5 ∧ o4.op = .buildSlice t 0 #[] ∧ o4.guard = none
  d5 : o5.dst = some 6 ∧ o5.op = .move (.tmp 0) ∧ o5.guard = none
  d6 : o6.dst = some 7 ∧ o6.op = .call { callee := .builtin .append, args := #[.tmp 5, .tmp 6], argTypes := #[t, t] } ∧ o6.guard = none
  d7 : o7.dst = some 2 ∧ o7.op = .assign (.tmp 7) ∧ o7.guard = none
  tb : cloneB P t sz bytes = true

theorem cloneB_spec {P : Program} {t sz bytes : Nat} (h : cloneB P t sz bytes = true) : ∃ e ie z, P.underlying t = some (.slice e) ∧ P.info? e = some ie ∧ ie.zero = some z ∧ ie.size = sz ∧ ie.bytes = bytes ∧ z.cells.size = sz ∧ 0 < bytes := by
  unfold cloneB at h
  split at h
  case h_2 => cases h
  rename_i e hu
  split at h
  case h_2 => cases h
  rename_i ie hi
  simp only [Bool.and_eq_true, beq_iff_eq, decide_eq_true_eq] at h
  obtain ⟨⟨⟨h1, h2⟩, h3⟩, h4⟩ := h
  split at h4
  case h_2 => cases h4
  rename_i z hz
  exact ⟨e, ie, z, hu, hi, hz, h1, h2, by simpa using h4, h3⟩

theorem clone_ok {P : Program} {f t sz bytes : Nat} {fn : Func} (hf : P.funcs[f]? = some fn) (C : CloneShape P fn t sz bytes) : ExtOK P f (cloneX sz bytes) := by
  intro args st res st' h hweak g w vs hst hrel
  obtain ⟨e, ie, z, tu, ti, tz, tsz, tby, tzs, tb1⟩ := cloneB_spec C.tb
  unfold cloneX at h
  split at h
  case h_2 => cases h
  rename_i own xs
  split at h
  case isFalse => cases h
  rename_i hcond
  simp only [Bool.and_eq_true, decide_eq_true_eq] at hcond
  obtain ⟨hrows, hbytes⟩ := hcond
  simp only [Option.some.injEq, Prod.mk.injEq] at h
  obtain ⟨rfl, rfl⟩ := h
  simp only [RelL] at hrel
  obtain ⟨v, _, rfl, hv, rfl⟩ := hrel
  have hvs := hv
  simp only [Rel] at hvs
  obtain ⟨ad0, n, cap, rfl, rfl, hcap, hnil, hne⟩ := hvs
  let A : Nat → Prop := fun b => w.heap.size ≤ b ∨ g.sr b ≠ none
  let c : Cx := ⟨P, [0, 2], [], 8, [], A⟩
  have fx : Fx c := ⟨show ([0, 2] : List Nat).Nodup by decide, show ∀ s ∈ ([0, 2] : List Nat), s < 8 by decide⟩
  have hown : own = false := by
    have := hweak (.list own xs) (by simp)
    simpa [AV.weak] using this.symm
  subst hown
  refine calls_of_wp hf C.body ?_
  have hS : S c g w (fun _ => none) (fun _ => 0) ⟨[.list false xs, .undef], fun _ => .undef, st⟩ { tmps := #[Value.slice ad0 xs.length cap] ++ Array.replicate (fn.ntmps - 1) undef, defers := [] } := by
    refine ⟨⟨by simp [c, C.nt], rfl, fun i s hs => ?_, fun s _ => ValOK.undef, fun b p hb => (by cases hb), fun i cs hi => ?_⟩, hst, fun e he => (by cases he), fun b hb => .inl hb, fun b p hb => .inr (by rw [hb]; simp)⟩
    · match i, hs with
      | 0, hs =>
        simp only [c, List.getElem?_cons_zero, Option.some.injEq] at hs
        subst hs
        have hval : ValOK g w (fun b => (fun _ => none : Nat → Option Pl) b = some (.var 0)) (AV.list false xs).weak (.slice ad0 xs.length cap) := ValOK.of_weak hv
        have e0 : (#[Value.slice ad0 xs.length cap] ++ Array.replicate (fn.ntmps - 1) undef).getD 0 undef = .slice ad0 xs.length cap := by rw [C.nt]; rfl
        show VarOK g w (fun _ => none) (fun _ => 0) 0 (.list false xs) ((#[Value.slice ad0 xs.length cap] ++ Array.replicate (fn.ntmps - 1) undef).getD 0 undef)
        rw [e0]
        exact hval
      | 1, hs => exact VarOK.undef
      | i + 2, hs => simp [c] at hs
    · match i, hi with
      | 0, hi => simp at hi
      | 1, hi => simp at hi
      | i + 2, hi => simp at hi
  -- the end
  have fin : ∀ (x : AV) (a' : Act) (w' : World) (g' : Gh) (pr' : Nat → Option Pl) (bx' : Nat → Nat) (τ' : Nat → AV), a'.defers = [] → S c g' w' pr' bx' ⟨[x, .list true xs], τ', st⟩ a' → Tr c.A g w g' w' →
      bodyPost P fn (CallPost g w st (.list true xs)) .ret a' w' := by
    intro x a' w' g' pr' bx' τ' hd hS' ht
    refine ⟨hd, ?_⟩
    obtain ⟨us, hus, hul, hall⟩ := res_ok (c := c) hS' (rs := fn.results.toList) (ks := [.vs 1]) (vs := [.list true xs]) (by rw [C.res]; rfl) rfl
    refine ⟨_, results_run hus, _, g', rfl, hS'.st, ⟨ht.ext, ht.size, ht.env, fun b hb hs _ => ht.keep b hb hs fun hA => ?_⟩, ?_⟩
    · rcases hA with hA | hA
      · omega
      · exact hA hs
    · match us, hul, hall with
      | [u], _, hall =>
        refine (hall 0 (.list true xs) u rfl rfl).mono (Ext.refl _ _) fun b hb => ⟨?_, rfl, fun _ x => x⟩
        obtain ⟨p, hp⟩ := hb
        obtain ⟨q1, q2, q3⟩ := hS'.fr.prv b p hp
        exact ⟨q1, q2, q3⟩
  refine wp_seq (wp_region ?_)
  show wpOps P #[C.o0] _ [0] _ _
  rw [wpOps_cons]
  refine opAt rfl C.d0.2.2 (mv_ok (c := c) fx hS (.inr C.d0.2.1) (p := .c (.list true [])) (d := .v 1) rfl (by rw [C.d0.1]; rfl) fun a1 w1 g1 pr1 bx1 hd1 hS1 ht1 => ?_)
  show (Code.seq _ _).wp P _ a1 w1
  refine wp_seq (wp_seq (wp_region ?_))
  show wpOps P #[C.o1, C.o2] _ [0, 1] _ _
  rw [wpOps_cons]
  refine opAt rfl C.d1.2.2 (mv_ok (c := c) fx hS1 (.inl C.d1.2.1) (p := .v 0) (d := .t 3) rfl (by rw [C.d1.1]; rfl) fun a2 w2 g2 pr2 bx2 hd2 hS2 ht2 => ?_)
  rw [wpOps_cons]
  have hA2 := read_ok hS2 (x := .tmp 3) (p := .t 3) rfl
  have hr2 : Rel g2 w2 (.list false xs) (a2.eval (.tmp 3)) := ValOK.rel hA2
  have hr2' := hr2
  simp only [Rel] at hr2'
  obtain ⟨ad2, n2, cap2, hev2, hn2, hcap2, hnil2, hne2⟩ := hr2'
  refine opAt rfl C.d2.2.2 (nil_ok (c := c) fx hS2 C.d2.2.1 tu hev2 (d := .t 4) (by rw [C.d2.1]; rfl) fun a3 w3 g3 pr3 bx3 hd3 hS3 ht3 => ?_)
  show (Code.cond _ _ _).wp P _ a3 w3
  have ht03 := (ht1.trans ht2).trans ht3
  have hd03 : a3.defers = [] := hd3.trans (hd2.trans hd1)
  have hb := cond_ok hS3 (x := .tmp 4) (y := .t 4) rfl (b := ad2.isNone) rfl
  refine wp_cond hb ?_
  cases ad2 with
  | none =>
    have hx0 : xs = [] := by
      have := hnil2 rfl
      exact List.eq_nil_of_length_eq_zero (by omega)
    refine wp_seq (wp_region ?_)
    show wpOps P #[C.o3] _ [0] _ _
    rw [wpOps_cons]
    refine opAt rfl C.d3.2.2 (mv_ok (c := c) fx hS3 (.inr C.d3.2.1) (p := .c (.list true [])) (d := .v 1) rfl (by rw [C.d3.1]; rfl) fun a4 w4 g4 pr4 bx4 hd4 hS4 ht4 => ?_)
    show Code.ret.wp P _ a4 w4
    refine wp_ret ?_
    show bodyPost P fn _ .ret a4 w4
    subst hx0
    exact fin _ a4 w4 g4 pr4 bx4 _ (hd4.trans hd03) hS4 (ht03.trans ht4)
  | some ad3 =>
    refine wp_skip ?_
    show (Code.seq _ _).wp P _ a3 w3
    refine wp_seq (wp_region ?_)
    show wpOps P #[C.o4, C.o5, C.o6, C.o7] _ [0, 1, 2, 3] _ _
    rw [wpOps_cons]
    refine opAt rfl C.d4.2.2 (slE_ok (c := c) fx hS3 C.d4.2.1 tu ti (d := .t 5) (by rw [C.d4.1]; rfl) fun a4 w4 g4 pr4 bx4 hd4 hS4 ht4 => ?_)
    rw [wpOps_cons]
    refine opAt rfl C.d5.2.2 (mv_ok (c := c) fx hS4 (.inl C.d5.2.1) (p := .v 0) (d := .t 6) rfl (by rw [C.d5.1]; rfl) fun a5 w5 g5 pr5 bx5 hd5 hS5 ht5 => ?_)
    rw [wpOps_cons]
    refine opAt rfl C.d6.2.2 (app_ok (c := c) fx hS5 C.d6.2.1 rfl tu ti tz tsz tby tzs tb1 (p0 := .ts 5) (p1 := .t 6) (d := .t 7) rfl rfl (by rw [C.d6.1]; rfl) (by rw [C.d6.1]; rfl) (xs := []) (ys := xs) (own := false) rfl rfl rfl hrows (by simpa using hbytes) fun a6 w6 g6 pr6 bx6 hd6 hS6 ht6 => ?_)
    rw [wpOps_cons]
    refine opAt rfl C.d7.2.2 (mv_ok (c := c) fx hS6 (.inr C.d7.2.1) (p := .ts 7) (d := .v 1) rfl (by rw [C.d7.1]; rfl) fun a7 w7 g7 pr7 bx7 hd7 hS7 ht7 => ?_)
    show Code.ret.wp P _ a7 w7
    refine wp_ret ?_
    show bodyPost P fn _ .ret a7 w7
    exact fin _ a7 w7 g7 pr7 bx7 _ (hd7.trans (hd6.trans (hd5.trans (hd4.trans hd03)))) hS7 ((((ht03.trans ht4).trans ht5).trans ht6).trans ht7)
end
end Go.Cb
