/-
  THE ABSTRACT MACHINE, part 13: stores into the store's objects; lists taken out of a cell with their spare room; maps written.
-/
import Derived.Test.YtkfbiiedabbgfaaDoorXAm12
set_option maxRecDepth 4000
namespace Go.Cb
open Classical

section
variable {c : Cx} {g : Gh} {w : World} {pr : Nat → Option Pl} {bx : Nat → Nat} {σ : Sig} {a : Act} {o : Oper} {call : CallT} {b b' r : AV} {st st' : St} {fr as : List AV}

/-- what is in flight comes to belong to a cell of an object -/
noncomputable def Gh.land (g : Gh) (pr : Nat → Option Pl) (oo off : Nat) : Gh := { g with sr := fun b => if pr b = some .fly then some (oo, some off) else g.sr b }

theorem stSt_ok (h : S c g w pr bx σ a) {oo off n : Nat} {t : TypeId} {x y : Operand} {p1 : Opd} {cs : List AV} (ho : o.op = .store t x y) (hn : sizeB c t = some n)
    (hb : σ.st[oo]? = some (.cells cs)) (hx : a.eval x = .pointer (some (ad (g.m oo) off))) (hp1 : opdOK c y p1 = true) (hpl : (p1.read σ).plain = true) (hlen : (p1.read σ).cells.length = n) (hle : off + n ≤ cs.length)
    {next : Act → World → Prop} {Q : Exit → Act → World → Prop} (hd : o.dst = none)
    (hnext : Post c g w a { p1.spend σ with st := σ.st.set oo (.cells (setSeg cs off (p1.read σ).cells)) } next) : o.wp c.P a w next Q := by
  obtain ⟨pr1, hS, hA, _⟩ := arg_spend h hp1 .fly
  have hrow := cells_okM hA hpl
  have hst1 : (p1.spend σ).st = σ.st := by cases p1 <;> rfl
  have hoo : oo < g.n := by rw [h.st.n]; exact (List.getElem?_eq_some_iff.1 hb).1
  obtain ⟨hrole, hcl, arr, T, hh, hrel, hone, hown⟩ := h.st.obj oo _ hb
  have hvl : (a.eval y).cells.size = n := by
    have := hrow.rel.length
    rw [hlen] at this
    exact this.symm.trans (by simp)
  have hcl2 : cs.length = arr.size := hrel.length.trans (by simp)
  have hrun := run_store_any (c := c) (w := w) (v := a.eval y) ho hx rfl (by rw [hvl]; exact hn) hh (by omega) hrow.one
  generalize hcells : (a.eval y).cells.toList = vs at *
  have hvs : vs.length = n := by rw [← hcells]; simpa using hvl
  rw [hvl, ← hvs] at hrun
  obtain ⟨r1, r2⟩ := row_set (off := off) hrel hone hrow.rel hrow.one
  generalize hnew : arr.toList.take off ++ vs ++ arr.toList.drop (off + vs.length) = new at *
  let g2 := g.land pr1 oo off
  let pr2 : Nat → Option Pl := fun b => if pr1 b = some .fly then none else pr1 b
  have he0 : Ext g w g (w.setRow (g.m oo) new.toArray) := Ext.setRow _ hcl
  have he : Ext g w g2 (w.setRow (g.m oo) new.toArray) := ⟨he0.n, he0.m, he0.cl, he0.cell⟩
  have hsame : ∀ b, b ≠ g.m oo → Same g w g2 (w.setRow (g.m oo) new.toArray) b := fun b hb => ⟨setRow_other w _ b _ hb, fun _ x => x⟩
  have hprb : ∀ b q, pr1 b = some q → b ≠ g.m oo := fun b q hq e => by
    have := (hS.fr.prv _ _ hq).1
    rw [e, hrole] at this; cases this
  have hland : ∀ b q, g.sr b = some q → g2.sr b = some q := fun b q hq => by
    show (if pr1 b = some .fly then some (oo, some off) else g.sr b) = some q
    rw [if_neg]
    · exact hq
    · intro e; have := (hS.fr.prv _ _ e).1; rw [this] at hq; cases hq
  have hfly : ∀ b, pr1 b = some .fly → g2.sr b = some (oo, some off) := fun b hb => by
    show (if pr1 b = some .fly then some (oo, some off) else g.sr b) = _
    rw [if_pos hb]
  unfold Oper.wp
  rw [hrun]
  simp only [Oper.upon, hd, Act.put]
  refine hnext a _ g2 pr2 bx rfl ⟨?_, ⟨?_, fun o' ob ho' => ?_, fun b q hq => ?_, fun b f hf => by simpa using hS.st.cli b f hf⟩, hS.gl.ext he, fun b hb => hS.fresh b (by simpa using hb), fun b q hq => ?_⟩
    ⟨he, by simp, Env.setRow _ _ _, fun b _ hs' hA'' => ⟨hsame b (fun e => by rw [e, hrole] at hs'; cases hs'), ?_⟩⟩
  · refine hS.fr.change (fun q => q ≠ .fly) he (fun b q hq hne => ⟨?_, hsame b (hprb b q hq)⟩) (fun b q hq => ?_) (fun j t' ht => .inl ⟨⟨by simp, by simp, by simp⟩, rfl⟩) (fun t' ht => .inl ⟨by simp, rfl⟩) rfl (fun j ds hj => ⟨ds, hj⟩) hS.fr.bxs
    · simp only [pr2]
      rw [if_neg (by rw [hq]; intro e; exact hne (Option.some.inj e))]
      exact hq
    · simp only [pr2] at hq
      split at hq
      · cases hq
      · rename_i hnf
        obtain ⟨q1, q2, q3⟩ := hS.fr.prv b q hq
        refine ⟨?_, by simpa using q2, q3⟩
        show (if pr1 b = some .fly then some (oo, some off) else g.sr b) = none
        rw [if_neg hnf]; exact q1
  · show g.n = _
    rw [List.length_set]; exact h.st.n
  · by_cases e : o' = oo
    · subst e
      rw [List.getElem?_set_self (by rw [← h.st.n]; exact hoo)] at ho'
      simp only [Option.some.injEq] at ho'
      subst ho'
      refine ⟨hland _ _ hrole, hcl, new.toArray, T, setRow_heap w _ arr _ T _ hh, by simpa using r1.ext he _ _, by simpa using r2, fun k z v hz hv => ?_⟩
      rw [List.getElem?_toArray, ← hnew] at hv
      unfold setSeg at hz
      have hz' := seg_get (by omega) hz
      have hv' := seg_get (by simp; omega) hv
      have hnb : ∀ b', g.sr b' = some (o', some k) → b' ≠ g.m o' := fun b' hb' e => by rw [e, hrole] at hb'; simp at hb'
      rcases hz' with ⟨z1, z2⟩ | ⟨z1, z2, z3⟩ | ⟨z1, z2⟩
      · rcases hv' with ⟨_, v2⟩ | ⟨v1, _⟩ | ⟨v1, _⟩
        · exact (hown k z v z2 (by simpa using v2)).mono fun b' hb' => ⟨hland b' _ hb', hsame b' (hnb b' hb')⟩
        · omega
        · omega
      · rcases hv' with ⟨v1, _⟩ | ⟨_, _, v3⟩ | ⟨v1, _⟩
        · omega
        · refine (hrow.own _ z v z3 v3).mono fun b' hb' => ?_
          obtain ⟨e0, hb'⟩ := hb'
          have ek : k = off := by omega
          subst ek
          exact ⟨hfly b' hb', hsame b' (hprb b' _ hb')⟩
        · omega
      · rcases hv' with ⟨v1, _⟩ | ⟨_, v1, _⟩ | ⟨_, v2⟩
        · omega
        · omega
        · exact (hown k z v z2 (by simpa using v2)).mono fun b' hb' => ⟨hland b' _ hb', hsame b' (hnb b' hb')⟩
    · rw [List.getElem?_set_ne (Ne.symm e)] at ho'
      refine (h.st.obj o' ob ho').mono (by rw [h.st.n]; exact (List.getElem?_eq_some_iff.1 ho').1) he fun b k hb => ⟨hland b _ hb, hsame b fun e2 => ?_⟩
      rw [e2, hrole] at hb
      simp only [Option.some.injEq, Prod.mk.injEq] at hb
      exact e hb.1.symm
  · have : b < w.heap.size := by
      simp only [g2, Gh.land] at hq
      split at hq
      · exact (hS.fr.prv b _ ‹_›).2.1
      · exact hS.st.inn b q hq
    simpa using this
  · simp only [g2, Gh.land] at hq
    split at hq
    · exact (hS.fr.prv b _ ‹_›).2.2
    · exact hS.stA b q hq
  · show (if pr1 b = some .fly then some (oo, some off) else g.sr b) = none
    rw [if_neg]
    · exact hs'
    · intro e; exact hA'' (hS.fr.prv b _ e).2.2

theorem weak1_none {x : AV} {v : Value} {mine : Nat → Prop} : OwnC g w mine x.weak1 v := by
  intro xs e
  cases x <;> simp [AV.weak1] at e

theorem RelL.set {cs : List AV} {us : List Value} {k : Nat} {x : AV} {v : Value} (h : RelL g w cs us) (hu : us[k]? = some v) (hx : Rel g w x v) : RelL g w (cs.set k x) us := by
  refine RelL.of_get (by simpa using h.length) fun i y u hy hu' => ?_
  by_cases e : i = k
  · subst e
    rw [hu] at hu'
    simp only [Option.some.injEq] at hu'
    subst hu'
    have hl : i < cs.length := by rw [h.length]; exact (List.getElem?_eq_some_iff.1 hu).1
    rw [List.getElem?_set_self hl] at hy
    simp only [Option.some.injEq] at hy
    subst hy
    exact hx
  · rw [List.getElem?_set_ne (Ne.symm e)] at hy
    obtain ⟨v', hv', hr⟩ := h.get hy
    rw [hu'] at hv'
    simp only [Option.some.injEq] at hv'
    subst hv'
    exact hr

/-- a cell read, with whatever it owns -/
theorem cell_arg {mine : Nat → Prop} {x : AV} {v : Value} (h : Rel g w x v) (h1 : v.oneCell' = true) (ho : OwnC g w mine x v) : ArgOK g w bx fr mine x v := by
  cases x
  case agg cs =>
    simp only [Rel] at h
    obtain ⟨y, rfl, _⟩ := h
    simp [Value.oneCell'] at h1
  case loc => simp [Rel] at h
  case box => simp [Rel] at h
  all_goals exact ⟨h, ho, fun _ e => (by cases e)⟩

theorem run_load_cell {t : TypeId} {x : Operand} {bb f : Nat} {v : Value} (ho : o.op = .load t x) (hag : isAggB c t = some false) (hx : a.eval x = .pointer (some (ad bb f))) (hv : w.cell? (ad bb f) = some v) :
    (execOp a.eval o).run c.P w = .ok (.value v) w := by
  simp [execOp, ho, hx, Instr.loadAt, Instr.sureAddr, loadVar, run_isAgg c rfl hag, hv]

theorem ldLcS_ok (fx : Fx c) (h : S c g w pr bx σ a) {i s off : Nat} (hs : c.slots[i]? = some s) {t : TypeId} {x : Operand} {cs : List AV} {z : AV} {p : Dst} (ho : o.op = .load t x) (hag : isAggB c t = some false)
    (hb : σ.fr.getD i .undef = .box cs) (hz : cs[off]? = some z) (hx : a.eval x = .pointer (some (ad (bx i) off))) (hd : dstOK c o.dst p = true) {next : Act → World → Prop} {Q : Exit → Act → World → Prop}
    (hnext : Post c g w a (p.put z { σ with fr := σ.fr.set i (.box (cs.set off z.weak1)) }) next) : o.wp c.P a w next Q := by
  have hi' : i < σ.fr.length := by rw [h.fr.len]; exact (List.getElem?_eq_some_iff.1 hs).1
  have hvar := h.fr.var i s hs
  rw [hb] at hvar
  obtain ⟨hptr, hrole, hcl, arr, T, hh, hrel, hone, hown⟩ := hvar
  obtain ⟨v, hv, hrz⟩ := hrel.get hz
  have hv' : arr[off]? = some v := by simpa using hv
  have h1 : v.oneCell' = true := hone v (by rw [Array.mem_toList_iff]; exact Array.mem_of_getElem? hv')
  have hrun := run_load_cell (c := c) (o := o) ho hag hx (by rw [cell_of_row w _ off arr T _ hh]; exact hv')
  have hown' := hown off z v hz hv'
  have hset : RelL g w (cs.set off z.weak1) arr.toList := hrel.set hv hrz.weak1
  have hS : S c g w (mvp pr (.cell i off) p.pl) bx { σ with fr := σ.fr.set i (.box (cs.set off z.weak1)) } a := by
    refine ⟨h.fr.change (· ≠ .cell i off) (Ext.refl g w) (fun b q hq hne => ⟨mvp_keep hq hne, rfl, fun _ x => x⟩) (fun b q hq => ?_) (fun j t' ht => ?_) (fun t' ht => .inl ⟨by simp, rfl⟩) (by simp) (fun j ds hj => ?_) (fun j ds hj => ?_), h.st, h.gl, h.fresh, h.stA⟩
    · obtain ⟨q', hq'⟩ := mvp_inv hq
      exact h.fr.prv b q' hq'
    · by_cases e : j = i
      · subst e
        obtain rfl : t' = s := Option.some.inj (ht.symm.trans hs)
        right
        rw [getDL_set_same hi']
        refine ⟨hptr, mvp_keep hrole (by simp), hcl, arr, T, hh, hset, hone, fun k y u hy hu => ?_⟩
        by_cases ek : k = off
        · subst ek
          rw [List.getElem?_set_self (List.getElem?_eq_some_iff.1 hz).1] at hy
          simp only [Option.some.injEq] at hy
          subst hy
          exact weak1_none
        · rw [List.getElem?_set_ne (Ne.symm ek)] at hy
          exact (hown k y u hy hu).mono fun b' hb' => ⟨mvp_keep hb' (by simp [ek]), rfl, fun _ x => x⟩
      · left
        exact ⟨⟨by simp, by simp, by simp [e]⟩, getDL_set_other e⟩
    · by_cases e : j = i
      · subst e; exact ⟨_, getDL_set_same hi'⟩
      · exact ⟨ds, by rw [getDL_set_other e]; exact hj⟩
    · by_cases e : j = i
      · subst e; exact h.fr.bxs j _ hb
      · rw [getDL_set_other e] at hj; exact h.fr.bxs j ds hj
  unfold Oper.wp
  rw [hrun]
  exact hnext _ _ g _ bx (defers_put _ _ _) (put_ok fx hS hd (mine := fun b => mvp pr (.cell i off) p.pl b = some p.pl) (cell_arg hrz h1 (hown'.mono fun b hb => ⟨mvp_src hb, rfl, fun _ x => x⟩)) fun _ x => x) (Tr.refl _ _ _)

noncomputable def Gh.give (g : Gh) (oo off : Nat) : Gh := { g with sr := fun b => if g.sr b = some (oo, some off) then none else g.sr b }

theorem ldStS_ok (fx : Fx c) (h : S c g w pr bx σ a) {oo off : Nat} {t : TypeId} {x : Operand} {cs : List AV} {z : AV} {p : Dst} (ho : o.op = .load t x) (hag : isAggB c t = some false)
    (hb : σ.st[oo]? = some (.cells cs)) (hz : cs[off]? = some z) (hx : a.eval x = .pointer (some (ad (g.m oo) off))) (hd : dstOK c o.dst p = true) {next : Act → World → Prop} {Q : Exit → Act → World → Prop}
    (hnext : Post c g w a (p.put z { σ with st := σ.st.set oo (.cells (cs.set off z.weak1)) }) next) : o.wp c.P a w next Q := by
  have hoo : oo < g.n := by rw [h.st.n]; exact (List.getElem?_eq_some_iff.1 hb).1
  obtain ⟨hrole, hcl, arr, T, hh, hrel, hone, hown⟩ := h.st.obj oo _ hb
  obtain ⟨v, hv, hrz⟩ := hrel.get hz
  have hv' : arr[off]? = some v := by simpa using hv
  have h1 : v.oneCell' = true := hone v (by rw [Array.mem_toList_iff]; exact Array.mem_of_getElem? hv')
  have hrun := run_load_cell (c := c) (o := o) ho hag hx (by rw [cell_of_row w _ off arr T _ hh]; exact hv')
  have hown' := hown off z v hz hv'
  let g2 := g.give oo off
  let pr2 : Nat → Option Pl := fun b => if g.sr b = some (oo, some off) then some p.pl else pr b
  have he : Ext g w g2 w := ⟨Nat.le_refl _, fun _ _ => rfl, fun _ _ x => x, fun _ _ _ => rfl⟩
  have hsame : ∀ b, Same g w g2 w b := fun b => ⟨rfl, fun _ x => x⟩
  have hset : RelL g w (cs.set off z.weak1) arr.toList := hrel.set hv hrz.weak1
  have hkeep : ∀ b o' k, g.sr b = some (o', k) → (o' ≠ oo ∨ k ≠ some off) → g2.sr b = some (o', k) := fun b o' k hb hne => by
    show (if g.sr b = some (oo, some off) then none else g.sr b) = _
    rw [if_neg]
    · exact hb
    · rw [hb]; intro e
      simp only [Option.some.injEq, Prod.mk.injEq] at e
      rcases hne with h1 | h1
      · exact h1 e.1
      · exact h1 e.2
  have hprk : ∀ b q, pr b = some q → pr2 b = some q := fun b q hq => by
    simp only [pr2]
    rw [if_neg]
    · exact hq
    · rw [(h.fr.prv b q hq).1]; simp
  have hS : S c g2 w pr2 bx { σ with st := σ.st.set oo (.cells (cs.set off z.weak1)) } a := by
    refine ⟨h.fr.change (fun _ => True) he (fun b q hq _ => ⟨hprk b q hq, hsame b⟩) (fun b q hq => ?_) (fun j t' ht => .inl ⟨⟨trivial, trivial, fun _ => trivial⟩, rfl⟩) (fun t' ht => .inl ⟨trivial, rfl⟩) rfl (fun j ds hj => ⟨ds, hj⟩) h.fr.bxs,
      ⟨?_, fun o' ob ho' => ?_, fun b q hq => ?_, h.st.cli⟩, h.gl.ext he, h.fresh, fun b q hq => ?_⟩
    · simp only [pr2] at hq
      show (if g.sr b = some (oo, some off) then none else g.sr b) = none ∧ _
      split at hq
      · rename_i e
        exact ⟨by rw [if_pos e], h.st.inn b _ e, h.stA b _ e⟩
      · rename_i e
        obtain ⟨q1, q2, q3⟩ := h.fr.prv b q hq
        exact ⟨by rw [if_neg e]; exact q1, q2, q3⟩
    · show g.n = _
      rw [List.length_set]; exact h.st.n
    · by_cases e : o' = oo
      · subst e
        rw [List.getElem?_set_self (by rw [← h.st.n]; exact hoo)] at ho'
        simp only [Option.some.injEq] at ho'
        subst ho'
        refine ⟨hkeep _ _ _ hrole (.inr (by simp)), hcl, arr, T, hh, hset.ext he _ _, hone, fun k y u hy hu => ?_⟩
        by_cases ek : k = off
        · subst ek
          rw [List.getElem?_set_self (List.getElem?_eq_some_iff.1 hz).1] at hy
          simp only [Option.some.injEq] at hy
          subst hy
          exact weak1_none
        · rw [List.getElem?_set_ne (Ne.symm ek)] at hy
          exact (hown k y u hy hu).mono fun b' hb' => ⟨hkeep b' _ _ hb' (.inr (by simp [ek])), hsame b'⟩
      · rw [List.getElem?_set_ne (Ne.symm e)] at ho'
        exact (h.st.obj o' ob ho').mono (by rw [h.st.n]; exact (List.getElem?_eq_some_iff.1 ho').1) he fun b k hb => ⟨hkeep b _ _ hb (.inl e), hsame b⟩
    · simp only [g2, Gh.give] at hq
      split at hq
      · cases hq
      · exact h.st.inn b q hq
    · simp only [g2, Gh.give] at hq
      split at hq
      · cases hq
      · exact h.stA b q hq
  have htr : Tr c.A g w g2 w := ⟨he, Nat.le_refl _, Env.refl w, fun b _ hs' _ => ⟨hsame b, by
    show (if g.sr b = some (oo, some off) then none else g.sr b) = none
    rw [if_neg (by rw [hs']; simp)]; exact hs'⟩⟩
  unfold Oper.wp
  rw [hrun]
  refine hnext _ _ g2 pr2 bx (defers_put _ _ _) (put_ok fx hS hd (mine := fun b => pr2 b = some p.pl) (cell_arg (hrz.ext he) h1 (hown'.mono fun b hb => ⟨?_, hsame b⟩)) fun _ x => x) htr
  simp only [pr2]
  rw [if_pos hb]
end
end Go.Cb
