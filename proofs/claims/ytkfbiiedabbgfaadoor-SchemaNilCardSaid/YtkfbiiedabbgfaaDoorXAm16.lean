/-
  THE ABSTRACT MACHINE, part 16: values that move with their spare room; boxes and objects made of a value; calls.
-/
import Derived.Test.YtkfbiiedabbgfaaDoorXAm15
set_option maxRecDepth 4000
namespace Go.Cb
open Classical

section
variable {c : Cx} {g : Gh} {w : World} {pr : Nat → Option Pl} {bx : Nat → Nat} {σ : Sig} {a : Act} {o : Oper} {call : CallT} {b b' r : AV} {st st' : St} {fr as : List AV}

theorem cells_okW {mine : Nat → Prop} {x : AV} {v : Value} (h : ArgOK g w bx fr mine x v) (hp : x.plain = true) : RowOK g w x.cellsW v.cells.toList := by
  have hm := cells_okM h hp
  have hv := h.plain hp
  cases x with
  | agg cs =>
    have hr := hv.rel
    simp only [Rel] at hr
    obtain ⟨arr, rfl, h1, h2⟩ := hr
    exact ⟨h1, h2, fun k y u hy hu => hv.agg cs rfl arr rfl k y u hy (by simpa [Value.cells] using hu)⟩
  | list own xs =>
    have hr := hv.rel
    simp only [Rel] at hr
    obtain ⟨a0, n, cap, rfl, hrest⟩ := hr
    refine ⟨by simp only [AV.cellsW, Value.cells, RelL]; exact ⟨_, [], rfl, by simp only [Rel]; exact ⟨a0, n, cap, rfl, hrest⟩, rfl⟩, by simp [Value.cells, Value.oneCell'], fun k y u hy hu ys e => ?_⟩
    obtain rfl : k = 0 := by cases k with | zero => rfl | succ k => simp [AV.cellsW] at hy
    simp [AV.cellsW] at hy
    simp [Value.cells] at hu
    subst hu
    rw [← hy] at e
    simp only [AV.list.injEq, Bool.and_eq_true, List.isEmpty_iff] at e
    obtain ⟨⟨rfl, rfl⟩, rfl⟩ := e
    rcases hv.own [] rfl with ⟨a1, n1, h1⟩ | ⟨_, _, _, _, _, _, _, _, h1, _⟩
    · exact ⟨a1, n1, h1⟩
    · exact absurd rfl h1
  | undef => simp [AV.plain] at hp
  | loc => simp [AV.plain] at hp
  | box => simp [AV.plain] at hp
  | tuple => simp [AV.plain] at hp
  | _ =>
    refine ⟨hm.rel, hm.one, fun k y u hy _ ys e => ?_⟩
    obtain rfl : k = 0 := by cases k with | zero => rfl | succ k => simp [AV.cellsW] at hy
    simp [AV.cellsW] at hy
    rw [← hy] at e
    cases e

theorem spend_loc (h : S c g w pr bx σ a) {x : Operand} {p : Opd} (hp : opdOK c x p = true) {i f : Nat} (hv : p.read σ = .loc i f) : p.spend σ = σ := by
  cases hsrc : p.src with
  | some src => exact (spend_ok h hp hsrc src).2.1 i f hv
  | none => cases p <;> simp_all [Opd.src, Opd.spend]

/-- a value that moves -/
theorem mv_ok (fx : Fx c) (h : S c g w pr bx σ a) {x : Operand} {p : Opd} {d : Dst} (ho : o.op = .move x ∨ o.op = .assign x) (hp : opdOK c x p = true) (hd : dstOK c o.dst d = true)
    {next : Act → World → Prop} {Q : Exit → Act → World → Prop} (hnext : Post c g w a (d.put (p.read σ) (p.spend σ)) next) : o.wp c.P a w next Q := by
  obtain ⟨pr1, hS, hA, _⟩ := arg_spend h hp d.pl
  have hrun : (execOp a.eval o).run c.P w = .ok (.value (a.eval x)) w := by rcases ho with ho | ho <;> simp [execOp, ho]
  have hA' : ArgOK g w bx (p.spend σ).fr (fun b => pr1 b = some d.pl) (p.read σ) (a.eval x) := by
    cases hv : p.read σ <;> rw [hv] at hA <;> first
      | exact hA
      | (rw [spend_loc h hp hv]; exact hA)
  unfold Oper.wp
  rw [hrun]
  exact hnext _ _ g pr1 bx (defers_put _ _ _) (put_ok fx hS hd (r := p.read σ) (v := a.eval x) hA' fun _ x => x) (Tr.refl _ _ _)

theorem run_box {elem : TypeId} {x : Operand} (ho : o.op = .box elem x) :
    (execOp a.eval o).run c.P w = .ok (.value (.pointer (some (ad w.heap.size 0)))) (w.alloc (.cells (a.eval x).cells elem)) := by
  simp [execOp, ho, Instr.box, newVar, newRow]
theorem run_alloc {elem : TypeId} {z : Value} (ho : o.op = .alloc elem) (hz : (c.P.info? elem).bind (·.zero) = some z) :
    (execOp a.eval o).run c.P w = .ok (.value (.pointer (some (ad w.heap.size 0)))) (w.alloc (.cells z.cells elem)) := by
  obtain ⟨i, hi, hz⟩ := Option.bind_eq_some_iff.1 hz
  simp [execOp, ho, Instr.alloc, newVar, newRow, zeroValue, typeInfo, hi, hz]

/-- a new private box -/
theorem nbox_ok (fx : Fx c) (h : S c g w pr bx σ a) {i s : Nat} (hds : o.dst = some s) (hs : c.slots[i]? = some s) (hi : i ∈ c.bxs) (hu : σ.fr.getD i .undef = .undef) {cs : List AV} {arr : Array Value} {T : TypeId}
    (hrun : (execOp a.eval o).run c.P w = .ok (.value (.pointer (some (ad w.heap.size 0)))) (w.alloc (.cells arr T))) (hr : RowOK g w cs arr.toList) {next : Act → World → Prop} {Q : Exit → Act → World → Prop}
    (hnext : Post c g w a { σ with fr := σ.fr.set i (.box cs) } next) : o.wp c.P a w next Q := by
  obtain ⟨pr', bx', hS⟩ := newbox_ok fx h hs hi hu (T := T) hr
  unfold Oper.wp
  rw [hrun, Oper.upon_value, hds]
  exact hnext _ _ g pr' bx' rfl hS (Tr.alloc _ h.st.cli _)

/-- a new object -/
theorem nobj_ok (fx : Fx c) (h : S c g w pr bx σ a) {d : Dst} (hd : dstOK c o.dst d = true) {ob : Obj} {O : _root_.Go.Obj} {r : AV} {v : Value} (hrun : (execOp a.eval o).run c.P w = .ok (.value v) (w.alloc O))
    (hz : ∀ c t z, O = .cells c t z → z = (0, 0)) (hob : Ext g w (g.more w.heap.size) (w.alloc O) → ObjOK (g.more w.heap.size) (w.alloc O) g.n ob)
    (hr : (r = .ptr σ.st.length 0 ∧ v = .pointer (some (ad w.heap.size 0))) ∨ (r = .map σ.st.length ∧ v = .map (some w.heap.size))) {next : Act → World → Prop} {Q : Exit → Act → World → Prop}
    (hnext : Post c g w a (d.put r { σ with st := σ.st ++ [ob] }) next) : o.wp c.P a w next Q := by
  obtain ⟨hS, htr, hm, hlt⟩ := more_ok h (O := O) hz hob
  unfold Oper.wp
  rw [hrun, Oper.upon_value]
  refine hnext _ _ _ pr bx (defers_put _ _ _) (put_ok fx hS hd (mine := No) (r := r) (v := v) ?_ fun _ x => x.elim) htr
  rcases hr with ⟨rfl, rfl⟩ | ⟨rfl, rfl⟩
  · exact (show ValOK _ _ No (.ptr _ _) _ from ValOK.mk' (by simp only [Rel]; exact ⟨hlt, by rw [hm]⟩) (by simp) (by simp))
  · exact (show ValOK _ _ No (.map _) _ from ValOK.mk' (by simp only [Rel]; exact ⟨hlt, by rw [hm]⟩) (by simp) (by simp))

/-! calls -/

/-- what a call leaves -/
def CallPost (g : Gh) (w : World) (st' : St) (res : AV) (e : Ending) (w' : World) : Prop :=
  ∃ v g', e = .returned v ∧ SRel g' w' st' ∧ Tr No g w g' w' ∧ ValOK g' w' (fun b => g'.sr b = none ∧ b < w'.heap.size ∧ (w.heap.size ≤ b ∨ g.sr b ≠ none)) res v

/-- a function that is entered -/
def enterB (P : Program) (f : Nat) : Bool := match P.funcs[f]? with
  | some fn => !(fn.name == "runtime.NumGoroutine") && fn.body.isSome
  | none => false

theorem run_enter {P : Program} {f : FuncId} (h : enterB P f = true) (args : Array Value) (w : World) : (callFunc f args).run P w = .ok (.enter f args) w := by
  unfold enterB at h
  split at h
  · rename_i fn hf
    simp only [Bool.and_eq_true, Bool.not_eq_true'] at h
    obtain ⟨h1, h2⟩ := h
    have h2 : fn.body.isNone = false := by cases hb : fn.body <;> simp_all
    simp only [callFunc, Sem.run_bind, run_program, Result.andThen_ok, hf, h1, h2, Bool.false_eq_true, if_false, Sem.run_pure]
  · cases h

/-- an abstract call is a call of the model's -/
def CallOK (P : Program) (gt : List (Nat × List AV)) (call : CallT) : Prop :=
  ∀ (f : Nat) (args : List AV) (st : St) (res : AV) (st' : St), call f args st = some (res, st') → (∀ x ∈ args, x.weak = x) →
    enterB P f = true ∧ ∀ (g : Gh) (w : World) (vs : List Value), SRel g w st → Globs gt g w → RelL g w args vs → Calls P f vs.toArray w (CallPost g w st' res)

theorem put_st (d : Dst) (r : AV) (σ : Sig) (st' : St) : d.put r { σ with st := st' } = { d.put r σ with st := st' } := by cases d <;> rfl

theorem enter_ok (fx : Fx c) (h : S c g w pr bx σ a) {f : FuncId} {vs : Array Value} {res : AV} {d : Dst} (hrun : (execOp a.eval o).run c.P w = .ok (.enter f vs) w)
    (hc : Calls c.P f vs w (CallPost g w st' res)) (hd : dstOK c o.dst d = true) {next : Act → World → Prop} {Q : Exit → Act → World → Prop} (hnext : Post c g w a (d.put res { σ with st := st' }) next) : o.wp c.P a w next Q := by
  unfold Oper.wp
  rw [hrun, Oper.upon_enter]
  refine hc.mono fun e w' he => ?_
  obtain ⟨v, g', rfl, hst, htr, hv⟩ := he
  show next (a.put o.dst v) w'
  have hnl : ∀ i f, res ≠ .loc i f := fun i f e => by rw [e] at hv; exact hv.rel
  have hstA : ∀ b p, g'.sr b = some p → c.A b := fun b p hb => by
    rcases Nat.lt_or_ge b w.heap.size with hlt | hge
    · cases hq : g.sr b with
      | some q => exact h.stA b q hq
      | none => have := (htr.keep b hlt hq (fun x => x)).2; rw [hb] at this; cases this
    · exact h.fresh b hge
  have hkeep : ∀ b p, pr b = some p → Same g w g' w' b ∧ g'.sr b = none := fun b p hb => by
    obtain ⟨h1, h2, _⟩ := h.fr.prv b p hb
    exact htr.keep b h2 h1 (fun x => x)
  cases hdst : o.dst with
  | none =>
    have hdn : d = .none := by cases d <;> simp_all [dstOK]
    subst hdn
    refine hnext _ _ g' pr bx rfl ⟨h.fr.evolve htr, hst, h.gl.ext htr.ext, fun b hb => h.fresh b (Nat.le_trans htr.size hb), hstA⟩ (htr.wider fun _ x => x.elim)
  | some s =>
    rw [← hdst]
    let pr2 : Nat → Option Pl := fun b => if pr b = none ∧ g'.sr b = none ∧ b < w'.heap.size ∧ (w.heap.size ≤ b ∨ g.sr b ≠ none) then some d.pl else pr b
    have hpr2 : ∀ b p, pr b = some p → pr2 b = some p := fun b p hb => by
      simp only [pr2]
      rw [if_neg (by rw [hb]; simp)]
      exact hb
    refine hnext _ _ g' pr2 bx (defers_put _ _ _) (put_st d res σ st' ▸ eff_put fx h hd (by rw [hdst]; rfl) htr.ext hst (fun b p hb _ => ⟨hpr2 b p hb, (hkeep b p hb).1⟩) (fun b p hb => ?_) htr.size hstA ?_) (htr.wider fun _ x => x.elim)
    · simp only [pr2] at hb
      split at hb
      · rename_i hcond
        obtain ⟨_, h2, h3, h4⟩ := hcond
        refine ⟨h2, h3, ?_⟩
        rcases h4 with h4 | h4
        · exact h.fresh b h4
        · cases hq : g.sr b with
          | none => exact absurd hq h4
          | some q => exact h.stA b q hq
      · obtain ⟨h1, h2, h3⟩ := h.fr.prv b p hb
        exact ⟨(hkeep b p hb).2, Nat.lt_of_lt_of_le h2 htr.size, h3⟩
    · refine ArgOK.of_val (hv.mono (Ext.refl _ _) fun b hb => ⟨?_, rfl, fun _ x => x⟩) hnl
      have hn : pr b = none := by
        cases hq : pr b with
        | none => rfl
        | some q =>
          obtain ⟨h1, h2, _⟩ := h.fr.prv b q hq
          rcases hb.2.2 with h4 | h4
          · omega
          · exact absurd h1 h4
      simp only [pr2]
      rw [if_pos ⟨hn, hb⟩]
end
end Go.Cb
