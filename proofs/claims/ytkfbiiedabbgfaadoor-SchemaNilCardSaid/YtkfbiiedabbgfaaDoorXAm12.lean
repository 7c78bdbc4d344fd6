/-
  THE ABSTRACT MACHINE, part 12: stores.
-/
import Derived.Test.YtkfbiiedabbgfaaDoorXAm11
set_option maxRecDepth 4000
namespace Go.Cb
open Classical

section
variable {c : Cx} {g : Gh} {w : World} {pr : Nat → Option Pl} {bx : Nat → Nat} {σ : Sig} {a : Act} {o : Oper} {call : CallT} {b b' r : AV} {st st' : St} {fr as : List AV}

/-- an operand, spent or not: what has been read bears the role 'dst' -/
theorem arg_spend (h : S c g w pr bx σ a) {x : Operand} {p : Opd} (hp : opdOK c x p = true) (dst : Pl) :
    ∃ pr1, S c g w pr1 bx (p.spend σ) a ∧ ArgOK g w bx σ.fr (fun b => pr1 b = some dst) (p.read σ) (a.eval x) ∧ ∀ b q, pr1 b = some q → ∃ q', pr b = some q' := by
  cases hsrc : p.src with
  | some src =>
    obtain ⟨h1, _, h3⟩ := spend_ok h hp hsrc dst
    refine ⟨_, h1, ?_, fun b q hq => mvp_inv hq⟩
    cases hv : p.read σ <;> rw [hv] at h3 <;> first
      | exact ValOK.mono h3 (Ext.refl g w) (fun b hb => ⟨mvp_src hb, rfl, fun _ x => x⟩)
      | exact h3
  | none =>
    have hst : p.steals = false := by cases p <;> simp_all [Opd.src, Opd.steals]
    have hsp : p.spend σ = σ := by cases p <;> simp_all [Opd.src, Opd.spend]
    rw [hsp]
    refine ⟨pr, h, ?_, fun b q hq => ⟨q, hq⟩⟩
    have h3 := read_ok h (x := x) (p := p) (by simp [opdN, hp, hst])
    cases hv : p.read σ <;> rw [hv] at h3 <;> first
      | exact ValOK.mono h3 (Ext.refl g w) (fun b hb => hb.elim)
      | exact h3

/-- the cells of a plain value, the role of its spare room told -/
structure RowM (g : Gh) (w : World) (mine : Nat → Prop) (cs : List AV) (vs : List Value) : Prop where
  rel : RelL g w cs vs
  one : ∀ v ∈ vs, v.oneCell' = true
  own : ∀ (k : Nat) (x : AV) (v : Value), cs[k]? = some x → vs[k]? = some v → OwnC g w (fun b => k = 0 ∧ mine b) x v

theorem cells_okM {mine : Nat → Prop} {x : AV} {v : Value} (h : ArgOK g w bx fr mine x v) (hp : x.plain = true) : RowM g w mine x.cells v.cells.toList := by
  have hv := h.plain hp
  cases x with
  | agg cs =>
    have hr := hv.rel
    simp only [Rel] at hr
    obtain ⟨arr, rfl, h1, h2⟩ := hr
    exact ⟨h1, h2, fun k y u hy hu xs e => .inl (hv.agg cs rfl arr rfl k y u hy (by simpa [Value.cells] using hu) xs e)⟩
  | undef => simp [AV.plain] at hp
  | loc => simp [AV.plain] at hp
  | box => simp [AV.plain] at hp
  | tuple => simp [AV.plain] at hp
  | list own xs =>
    have hr := hv.rel
    simp only [Rel] at hr
    obtain ⟨a0, n, cap, rfl, _⟩ := hr
    refine ⟨by simp only [AV.cells, Value.cells, RelL]; exact ⟨_, [], rfl, hv.rel, rfl⟩, by simp [Value.cells, Value.oneCell'], fun k y u hy hu ys e => ?_⟩
    obtain rfl : k = 0 := by cases k with | zero => rfl | succ k => simp [AV.cells] at hy
    simp [AV.cells] at hy
    simp [Value.cells] at hu
    subst hu
    rw [← hy] at e
    exact (hv.own ys e).mono fun b hb => ⟨⟨rfl, hb⟩, rfl, fun _ x => x⟩
  | _ =>
    have hone : v.oneCell' = true := by
      have hr := hv.rel
      simp only [Rel] at hr
      first
        | (subst hr; rfl)
        | (obtain ⟨_, rfl⟩ := hr; rfl)
        | (obtain ⟨_, rfl, _⟩ := hr; rfl)
        | (obtain ⟨_, _, rfl, _⟩ := hr; rfl)
    have hc : v.cells = #[v] := by cases v <;> first | rfl | cases hone
    rw [hc]
    refine ⟨by simp only [AV.cells, RelL]; exact ⟨v, [], rfl, hv.rel, rfl⟩, by simpa using hone, fun k y u hy _ ys e => ?_⟩
    obtain rfl : k = 0 := by cases k with | zero => rfl | succ k => simp [AV.cells] at hy
    simp [AV.cells] at hy
    rw [← hy] at e
    cases e

theorem run_store_any {t : TypeId} {x y : Operand} {bb off : Nat} {arr : Array Value} {T : TypeId} {v : Value} (ho : o.op = .store t x y) (hx : a.eval x = .pointer (some (ad bb off))) (hy : a.eval y = v)
    (hn : sizeB c t = some v.cells.size) (hh : w.heap[bb]? = some (.cells arr T (0, 0))) (hle : off + v.cells.size ≤ arr.size) (h1 : ∀ u ∈ v.cells.toList, u.oneCell' = true) :
    (execOp a.eval o).run c.P w = .ok .skip (w.setRow bb (arr.toList.take off ++ v.cells.toList ++ arr.toList.drop (off + v.cells.size)).toArray) := by
  have hst := run_storeCells_at c.P bb off T v.cells.toList 0 arr w hh (by simpa using hle) h1
  simp only [Nat.add_zero, Array.length_toList] at hst
  simp only [execOp, ho, hx, hy, Instr.storeAt, Instr.sureAddr, Sem.run_bind, Sem.run_pure, Result.andThen_ok, storeVar, run_sizeOf (w := w) hn, ne_eq, not_true, if_false]
  rw [hst]
  rfl

theorem cell?_setRow_other {bb k f : Nat} (cs : Array Value) (h : k ≠ bb) : (w.setRow bb cs).cell? (ad k f) = w.cell? (ad k f) :=
  World.cell?_of_block (setRow_other w bb k cs h)

theorem Ext.setRow {bb : Nat} (cs : Array Value) (h : ∀ f, ¬ g.cl bb f) : Ext g w g (w.setRow bb cs) :=
  ⟨Nat.le_refl _, fun _ _ => rfl, fun _ _ h => h, fun _k f hk => cell?_setRow_other cs fun e => h f (e ▸ hk)⟩

theorem seg_get {α : Type} {l s : List α} {off k : Nat} {x : α} (hle : off + s.length ≤ l.length) (h : (l.take off ++ s ++ l.drop (off + s.length))[k]? = some x) :
    (k < off ∧ l[k]? = some x) ∨ (off ≤ k ∧ k < off + s.length ∧ s[k - off]? = some x) ∨ (off + s.length ≤ k ∧ l[k]? = some x) := by
  have hlen : (l.take off).length = off := by rw [List.length_take]; omega
  by_cases h1 : k < off
  · left
    rw [List.append_assoc, List.getElem?_append_left (by omega), List.getElem?_take, if_pos h1] at h
    exact ⟨h1, h⟩
  · by_cases h2 : k < off + s.length
    · right; left
      rw [List.append_assoc, List.getElem?_append_right (by omega), hlen, List.getElem?_append_left (by omega)] at h
      exact ⟨by omega, h2, h⟩
    · right; right
      rw [List.append_assoc, List.getElem?_append_right (by omega), hlen, List.getElem?_append_right (by omega), List.getElem?_drop] at h
      rw [show off + s.length + (k - off - s.length) = k by omega] at h
      exact ⟨by omega, h⟩

/-- a row of cells in which a piece has been written over -/
theorem row_set {cs ds : List AV} {us vs : List Value} {off : Nat} (hr : RelL g w cs us) (h1 : ∀ v ∈ us, v.oneCell' = true) (hd : RelL g w ds vs) (h1d : ∀ v ∈ vs, v.oneCell' = true) :
    RelL g w (setSeg cs off ds) (us.take off ++ vs ++ us.drop (off + vs.length)) ∧ ∀ v ∈ us.take off ++ vs ++ us.drop (off + vs.length), v.oneCell' = true := by
  refine ⟨?_, fun v hv => ?_⟩
  · unfold setSeg
    rw [hd.length]
    exact ((hr.take off).append hd).append (hr.drop _)
  · rcases List.mem_append.1 hv with hv | hv
    · rcases List.mem_append.1 hv with hv | hv
      · exact h1 v (List.mem_of_mem_take hv)
      · exact h1d v hv
    · exact h1 v (List.mem_of_mem_drop hv)

theorem stLc_ok (h : S c g w pr bx σ a) {i s off n : Nat} (hs : c.slots[i]? = some s) {t : TypeId} {x y : Operand} {p1 : Opd} {cs : List AV} (ho : o.op = .store t x y) (hn : sizeB c t = some n)
    (hb : σ.fr.getD i .undef = .box cs) (hx : a.eval x = .pointer (some (ad (bx i) off))) (hp1 : opdOK c y p1 = true) (hpl : (p1.read σ).plain = true) (hlen : (p1.read σ).cells.length = n) (hle : off + n ≤ cs.length)
    {next : Act → World → Prop} {Q : Exit → Act → World → Prop} (hd : o.dst = none)
    (hnext : Post c g w a { p1.spend σ with fr := (p1.spend σ).fr.set i (.box (setSeg cs off (p1.read σ).cells)) } next) : o.wp c.P a w next Q := by
  obtain ⟨pr1, hS, hA, _⟩ := arg_spend h hp1 (.cell i off)
  have hrow := cells_okM hA hpl
  have hi' : i < σ.fr.length := by rw [h.fr.len]; exact (List.getElem?_eq_some_iff.1 hs).1
  have hb1 : (p1.spend σ).fr.getD i .undef = .box cs := by
    cases p1 <;> simp only [Opd.spend] <;> try exact hb
    rename_i j
    by_cases e : i = j
    · subst e; rw [getDL_set_same hi', hb]; rfl
    · rw [getDL_set_other e]; exact hb
  have hlen1 : (p1.spend σ).fr.length = σ.fr.length := by cases p1 <;> simp [Opd.spend]
  have hvar := hS.fr.var i s hs
  rw [hb1] at hvar
  obtain ⟨hptr, hrole, hcl, arr, T, hh, hrel, hone, hown⟩ := hvar
  have hvl : (a.eval y).cells.size = n := by
    have := hrow.rel.length
    rw [hlen] at this
    exact this.symm.trans (by simp)
  have hcl2 : cs.length = arr.size := hrel.length.trans (by simp)
  have hrun := run_store_any (c := c) (w := w) (v := a.eval y) ho hx rfl (by rw [hvl]; exact hn) hh (by omega) hrow.one
  generalize hcells : (a.eval y).cells.toList = vs at *
  have hvs : vs.length = n := by rw [← hcells]; simpa using hvl
  rw [hvl, ← hvs] at hrun
  obtain ⟨r1, r2⟩ := row_set (off := off) hrel hone hrow.rel hrow.one
  generalize hnew : arr.toList.take off ++ vs ++ arr.toList.drop (off + vs.length) = new at *
  have he : Ext g w g (w.setRow (bx i) new.toArray) := Ext.setRow _ hcl
  have hsame : ∀ b, b ≠ bx i → Same g w g (w.setRow (bx i) new.toArray) b := fun b hb => ⟨setRow_other w _ b _ hb, fun _ x => x⟩
  have hsrb : ∀ b q, g.sr b = some q → b ≠ bx i := fun b q hq e => by
    have := (hS.fr.prv _ _ hrole).1
    rw [e, this] at hq; cases hq
  unfold Oper.wp
  rw [hrun]
  simp only [Oper.upon, hd, Act.put]
  have hA' : c.A (bx i) := (hS.fr.prv _ _ hrole).2.2
  refine hnext a _ g pr1 bx rfl ⟨?_, hS.st.evolve he rfl (by simp) (fun b q hq => ⟨hq, hsame b (hsrb b q hq)⟩) (fun _ _ x => x) (fun _ _ x => .inl x), hS.gl.ext he, fun b hb => hS.fresh b (by simpa using hb), hS.stA⟩
    ⟨he, by simp, Env.setRow _ _ _, fun b _ hs' hA'' => ⟨hsame b fun e => hA'' (e ▸ hA'), hs'⟩⟩
  refine hS.fr.change (fun q => q ≠ .box i) he (fun b q hq hne => ⟨hq, hsame b fun e => ?_⟩) (fun b q hq => ?_) (fun j t' ht => ?_) (fun t' ht => .inl ⟨by simp, rfl⟩) (by simp) (fun j ds hj => ?_) (fun j ds hj => ?_)
  · rw [e, hrole] at hq; exact hne (Option.some.inj hq).symm
  · obtain ⟨q1, q2, q3⟩ := hS.fr.prv b q hq; exact ⟨q1, by simpa using q2, q3⟩
  · by_cases e : j = i
    · subst e
      obtain rfl : t' = s := Option.some.inj (ht.symm.trans hs)
      right
      rw [getDL_set_same (by rw [hlen1]; exact hi')]
      refine ⟨hptr, hrole, hcl, new.toArray, T, setRow_heap w _ arr _ T _ hh, by simpa using r1.ext he _ _, by simpa using r2, fun k z v hz hv => ?_⟩
      rw [List.getElem?_toArray, ← hnew] at hv
      unfold setSeg at hz
      have hz' := seg_get (by omega) hz
      have hv' := seg_get (by simp; omega) hv
      have hnb : ∀ b', pr1 b' = some (.cell j k) → b' ≠ bx j := fun b' hb' e => by rw [e, hrole] at hb'; cases hb'
      rcases hz' with ⟨z1, z2⟩ | ⟨z1, z2, z3⟩ | ⟨z1, z2⟩
      · rcases hv' with ⟨_, v2⟩ | ⟨v1, _⟩ | ⟨v1, _⟩
        · exact (hown k z v z2 (by simpa using v2)).mono fun b' hb' => ⟨hb', hsame b' (hnb b' hb')⟩
        · omega
        · omega
      · rcases hv' with ⟨v1, _⟩ | ⟨_, _, v3⟩ | ⟨v1, _⟩
        · omega
        · refine (hrow.own _ z v z3 v3).mono fun b' hb' => ?_
          obtain ⟨e0, hb'⟩ := hb'
          have ek : k = off := by omega
          subst ek
          exact ⟨hb', hsame b' (hnb b' hb')⟩
        · omega
      · rcases hv' with ⟨v1, _⟩ | ⟨_, v1, _⟩ | ⟨_, v2⟩
        · omega
        · omega
        · exact (hown k z v z2 (by simpa using v2)).mono fun b' hb' => ⟨hb', hsame b' (hnb b' hb')⟩
    · left
      exact ⟨⟨by simp, by simp [e], by simp⟩, getDL_set_other e⟩
  · by_cases e : j = i
    · subst e; exact ⟨_, getDL_set_same (by rw [hlen1]; exact hi')⟩
    · exact ⟨ds, by rw [getDL_set_other e]; exact hj⟩
  · by_cases e : j = i
    · subst e; exact hS.fr.bxs j _ hb1
    · rw [getDL_set_other e] at hj; exact hS.fr.bxs j ds hj
end
end Go.Cb
