/-
  THE ABSTRACT MACHINE, part 11: operations that change memory, or whose spare room passes on.
-/
import Derived.Test.YtkfbiiedabbgfaaDoorXAm10
set_option maxRecDepth 4000
namespace Go.Cb
open Classical

theorem FR.change {A : Nat → Prop} {g g' : Gh} {w w' : World} {pr pr' : Nat → Option Pl} {bx : Nat → Nat} {slots bxs : List Nat} {nt : Nat} {fr fr' : List AV} {τ τ' : Nat → AV} {tmps : Array Value}
    (h : FR A g w pr bx slots bxs nt fr τ tmps) (ok : Pl → Prop) (he : Ext g w g' w')
    (hm : ∀ b p, pr b = some p → ok p → pr' b = some p ∧ Same g w g' w' b)
    (hprv : ∀ b p, pr' b = some p → g'.sr b = none ∧ b < w'.heap.size ∧ A b)
    (hvar : ∀ i s, slots[i]? = some s → ((ok (.var i) ∧ ok (.box i) ∧ ∀ k, ok (.cell i k)) ∧ fr'.getD i .undef = fr.getD i .undef) ∨ VarOK g' w' pr' bx i (fr'.getD i .undef) (tmps.getD s undef))
    (htmp : ∀ s, s ∉ slots → (ok (.tmp s) ∧ τ' s = τ s) ∨ TmpOK g' w' pr' bx fr' s (τ' s) (tmps.getD s undef))
    (hlen : fr'.length = fr.length) (hbox : ∀ j cs, fr.getD j .undef = .box cs → ∃ cs', fr'.getD j .undef = .box cs') (hbxs : ∀ j cs, fr'.getD j .undef = .box cs → j ∈ bxs) :
    FR A g' w' pr' bx slots bxs nt fr' τ' tmps := by
  refine ⟨h.size, hlen.trans h.len, fun i s hs => ?_, fun s hs => ?_, hprv, hbxs⟩
  · rcases hvar i s hs with ⟨⟨o1, o2, o3⟩, e⟩ | hv
    · rw [e]
      refine (h.var i s hs).mono he (fun b p hb hp => hm b p hb ?_) (fun _ _ => rfl)
      rcases hp with rfl | rfl | ⟨k, rfl⟩
      · exact o1
      · exact o2
      · exact o3 k
    · exact hv
  · rcases htmp s hs with ⟨o1, e⟩ | hv
    · rw [e]
      exact (h.tmp s hs).mono he (fun b hb => hm b _ hb o1) (fun j cs hj => ⟨rfl, hbox j cs hj⟩)
    · exact hv

/-- a role passes from one place to another -/
noncomputable def mvp (pr : Nat → Option Pl) (src dst : Pl) : Nat → Option Pl := fun b => if pr b = some src then some dst else pr b

theorem mvp_keep {pr : Nat → Option Pl} {src dst p : Pl} {b : Nat} (h : pr b = some p) (hp : p ≠ src) : mvp pr src dst b = some p := by
  unfold mvp
  rw [if_neg]
  · exact h
  · rw [h]; intro e; exact hp (Option.some.inj e)
theorem mvp_src {pr : Nat → Option Pl} {src dst : Pl} {b : Nat} (h : pr b = some src) : mvp pr src dst b = some dst := by simp [mvp, h]
theorem mvp_inv {pr : Nat → Option Pl} {src dst p : Pl} {b : Nat} (h : mvp pr src dst b = some p) : ∃ q, pr b = some q := by
  unfold mvp at h
  split at h
  · exact ⟨_, ‹_›⟩
  · exact ⟨p, h⟩

section
variable {c : Cx} {g : Gh} {w : World} {pr : Nat → Option Pl} {bx : Nat → Nat} {σ : Sig} {a : Act} {o : Oper} {call : CallT} {b b' r : AV} {st st' : St} {fr as : List AV}

/-- an operand that is spent: from where -/
def Opd.src : Opd → Option Pl
  | .ts s => some (.tmp s)
  | .vs i => some (.var i)
  | _ => none

/-- the state when an operand has been spent and its role has gone to another place -/
theorem spend_ok (h : S c g w pr bx σ a) {x : Operand} {p : Opd} (hp : opdOK c x p = true) {src : Pl} (hsrc : p.src = some src) (dst : Pl) :
    S c g w (mvp pr src dst) bx (p.spend σ) a ∧ (∀ v cs, p.read σ = .loc v cs → (p.spend σ) = σ) ∧
      ArgOK g w bx σ.fr (fun b => pr b = some src) (p.read σ) (a.eval x) := by
  have hprv : ∀ b q, mvp pr src dst b = some q → g.sr b = none ∧ b < w.heap.size ∧ c.A b := fun b q hb => by
    obtain ⟨q', hq'⟩ := mvp_inv hb
    exact h.fr.prv b q' hq'
  unfold opdOK at hp
  split at hp <;> first | (simp only [Opd.src] at hsrc; cases hsrc; done) | (cases hp; done) | simp only [Opd.src] at hsrc
  · -- a temporary
    rename_i s s'
    simp only [Bool.and_eq_true, beq_iff_eq] at hp
    obtain ⟨rfl, hn⟩ := hp
    have hn := contains_not hn
    simp only [Option.some.injEq] at hsrc
    subst hsrc
    have ht := h.fr.tmp s hn
    have hw : ∀ pr', TmpOK g w pr' bx σ.fr s (σ.τ s).weak (a.tmps.getD s undef) := fun pr' => by
      cases hv : σ.τ s <;> rw [hv] at ht <;> first | exact ValOK.of_weak (ValOK.rel ht) | exact ht
    refine ⟨⟨h.fr.change (· ≠ .tmp s) (Ext.refl g w) (fun b q hb hq => ⟨mvp_keep hb hq, rfl, fun _ x => x⟩) hprv (fun i t _ => .inl ⟨⟨by simp, by simp, by simp⟩, rfl⟩) (fun t ht' => ?_) rfl (fun j cs hj => ⟨cs, hj⟩) h.fr.bxs, h.st, h.gl, h.fresh, h.stA⟩, ?_, ?_⟩
    · by_cases e : t = s
      · subst e
        right
        simp only [Opd.spend, updT, Nat.beq_refl, if_true]
        exact hw _
      · left
        exact ⟨by simpa using e, by simp [Opd.spend, updT, e]⟩
    · intro v cs hv
      simp only [Opd.read] at hv
      simp only [Opd.spend, hv, AV.weak]
      have : updT σ.τ s (.loc v cs) = σ.τ := by
        funext t
        by_cases e : t = s
        · subst e; simp [updT, hv]
        · simp [updT, e]
      rw [this]
    · simp only [Opd.read, Act.eval]
      cases hv : σ.τ s <;> rw [hv] at ht <;> first | exact ht | exact ht.elim
  · -- a variable
    rename_i s i
    have hs : c.slots[i]? = some s := by simpa using hp
    simp only [Option.some.injEq] at hsrc
    subst hsrc
    have hi : i < σ.fr.length := by rw [h.fr.len]; exact (List.getElem?_eq_some_iff.1 hs).1
    have hv := h.fr.var i s hs
    have hbox : ∀ j cs, σ.fr.getD j .undef = .box cs → (Opd.spend (.vs i) σ).fr.getD j .undef = .box cs := fun j cs hj => by
      simp only [Opd.spend]
      by_cases e : j = i
      · subst e; rw [getDL_set_same hi, hj]; rfl
      · rw [getDL_set_other e]; exact hj
    refine ⟨⟨h.fr.change (· ≠ .var i) (Ext.refl g w) (fun b q hb hq => ⟨mvp_keep hb hq, rfl, fun _ x => x⟩) hprv (fun j t ht => ?_) (fun t _ => .inl ⟨by simp, rfl⟩) (by simp [Opd.spend]) (fun j cs hj => ⟨cs, hbox j cs hj⟩) (fun j cs hj => ?_), h.st, h.gl, h.fresh, h.stA⟩, ?_, ?_⟩
    · by_cases e : j = i
      · subst e
        obtain rfl : t = s := Option.some.inj (ht.symm.trans hs)
        simp only [Opd.spend, getDL_set_same hi]
        right
        have hweak : ∀ (x : AV) (u : Value), VarOK g w pr bx j x u → VarOK g w (mvp pr (.var j) dst) bx j x.weak u := by
          intro x u hx
          cases x <;> first
            | exact ValOK.of_weak (ValOK.rel hx)
            | exact hx.elim
            | exact ⟨hx.1, hx.2.mono (Ext.refl g w) (fun b q hb hq => ⟨mvp_keep hb (by rcases hq with rfl | ⟨k, rfl⟩ <;> simp), rfl, fun _ x => x⟩)⟩
        exact hweak _ _ hv
      · left
        exact ⟨⟨by simp [e], by simp, by simp⟩, by simp only [Opd.spend, getDL_set_other e]⟩
    · by_cases e : j = i
      · subst e
        simp only [Opd.spend, getDL_set_same hi] at hj
        cases hq : σ.fr.getD j .undef <;> rw [hq] at hj <;> simp [AV.weak] at hj
        exact h.fr.bxs j _ hq
      · simp only [Opd.spend, getDL_set_other e] at hj
        exact h.fr.bxs j cs hj
    · intro v cs hv'
      simp only [Opd.read] at hv'
      rw [hv'] at hv
      exact hv.elim
    · simp only [Opd.read, Act.eval]
      cases hq : σ.fr.getD i .undef <;> rw [hq] at hv <;> first | exact hv | exact hv.elim | trivial

theorem Ext.alloc (hc : ∀ b f, g.cl b f → b < w.heap.size) (ob : _root_.Go.Obj) : Ext g w g (w.alloc ob) :=
  ⟨Nat.le_refl _, fun _ _ => rfl, fun _ _ h => h, fun b f h => World.cell?_alloc_lt _ _ _ (hc b f h)⟩
theorem Tr.alloc (A : Nat → Prop) (hc : ∀ b f, g.cl b f → b < w.heap.size) (ob : _root_.Go.Obj) (hz : ∀ c t z, ob = .cells c t z → z = (0, 0) := by intro c t z e; cases e; rfl) : Tr A g w g (w.alloc ob) :=
  ⟨Ext.alloc hc ob, by simp, Env.alloc w ob hz, fun b hb hs _ => ⟨⟨heap_alloc_old w ob hb, fun _ x => x⟩, hs⟩⟩
theorem SRel.alloc (h : SRel g w st) (ob : _root_.Go.Obj) : SRel g (w.alloc ob) st :=
  h.evolve (Ext.alloc h.cli ob) rfl (by simp) (fun b _ hb => ⟨hb, heap_alloc_old w ob (h.inn b _ hb), fun _ x => x⟩) (fun _ _ x => x) (fun _ _ x => .inl x)

/-- a private box is made -/
theorem newbox_ok (fx : Fx c) (h : S c g w pr bx σ a) {i s : Nat} (hs : c.slots[i]? = some s) (hi : i ∈ c.bxs) (hu : σ.fr.getD i .undef = .undef) {cs : List AV} {arr : Array Value} {T : TypeId} (hr : RowOK g w cs arr.toList) :
    ∃ pr' bx', S c g (w.alloc (.cells arr T)) pr' bx' { σ with fr := σ.fr.set i (.box cs) } (a.put (some s) (.pointer (some (ad w.heap.size 0)))) := by
  have hi' : i < σ.fr.length := by rw [h.fr.len]; exact (List.getElem?_eq_some_iff.1 hs).1
  have hs' : s < a.tmps.size := by rw [h.fr.size]; exact fx.lt s (List.mem_of_getElem? hs)
  have hsr : g.sr w.heap.size = none := by
    cases hq : g.sr w.heap.size with
    | none => rfl
    | some p => exact absurd (h.st.inn _ p hq) (Nat.lt_irrefl _)
  have he := Ext.alloc h.st.cli (_root_.Go.Obj.cells arr T)
  have hne : ∀ b p, pr b = some p → b ≠ w.heap.size := fun b p hb e => by have := (h.fr.prv b p hb).2.1; omega
  let pr' : Nat → Option Pl := fun b => if b = w.heap.size then some (.box i) else pr b
  let bx' : Nat → Nat := fun j => if j = i then w.heap.size else bx j
  have hkeep : ∀ b p, pr b = some p → pr' b = some p ∧ Same g w g (w.alloc (.cells arr T)) b := fun b p hb =>
    ⟨by simp only [pr', if_neg (hne b p hb)]; exact hb, heap_alloc_old w _ (h.fr.prv b p hb).2.1, fun _ x => x⟩
  refine ⟨pr', bx', ⟨⟨by simpa [Act.put] using h.fr.size, by simpa using h.fr.len, fun j t ht => ?_, fun t ht => ?_, fun b p hb => ?_, fun j ds hj => ?_⟩, h.st.alloc _, h.gl.ext he, fun b hb => h.fresh b (by simp at hb; omega), h.stA⟩⟩
  · by_cases e : j = i
    · subst e
      obtain rfl : t = s := Option.some.inj (ht.symm.trans hs)
      simp only [Act.put]
      rw [getD_set_same hs', getDL_set_same hi']
      refine ⟨by simp [bx'], ?_⟩
      simp only [bx', if_true]
      refine ⟨by simp [pr'], fun f hf => absurd (h.st.cli _ f hf) (Nat.lt_irrefl _), arr, T, heap_alloc_new w _, RelL.ext he _ _ hr.rel, hr.one, fun k x v hx hv xs ex => .inl (hr.own k x v hx (by simpa using hv) xs ex)⟩
    · simp only [Act.put]
      rw [getD_set_other (slot_ne fx.nd ht hs e), getDL_set_other e]
      exact (h.fr.var j t ht).mono he (fun b p hb _ => hkeep b p hb) (fun _ _ => by simp [bx', e])
  · have hts : t ≠ s := fun e => ht (e ▸ List.mem_of_getElem? hs)
    simp only [Act.put]
    rw [getD_set_other hts]
    refine (h.fr.tmp t ht).mono he (fun b hb => hkeep b _ hb) (fun j ds hj => ?_)
    have e : j ≠ i := fun e => by subst e; rw [hu] at hj; cases hj
    exact ⟨by simp [bx', e], ds, by rw [getDL_set_other e]; exact hj⟩
  · by_cases e : b = w.heap.size
    · subst e; exact ⟨hsr, by simp, h.fresh _ (Nat.le_refl _)⟩
    · simp only [pr', if_neg e] at hb
      obtain ⟨h1, h2, h3⟩ := h.fr.prv b p hb
      exact ⟨h1, by simp; omega, h3⟩
  · by_cases e : j = i
    · subst e; exact hi
    · simp only [getDL_set_other e] at hj; exact h.fr.bxs j ds hj

/-- the store has one object more -/
noncomputable def Gh.more (g : Gh) (b : Nat) : Gh where
  n := g.n + 1
  m := fun o => if o = g.n then b else g.m o
  cl := g.cl
  sr := fun b' => if b' = b then some (g.n, none) else g.sr b'

theorem more_ok (h : S c g w pr bx σ a) {ob : Obj} {O : _root_.Go.Obj} (hz : ∀ c t z, O = .cells c t z → z = (0, 0)) (hob : Ext g w (g.more w.heap.size) (w.alloc O) → ObjOK (g.more w.heap.size) (w.alloc O) g.n ob) :
    S c (g.more w.heap.size) (w.alloc O) pr bx { σ with st := σ.st ++ [ob] } a ∧ Tr c.A g w (g.more w.heap.size) (w.alloc O) ∧ (g.more w.heap.size).m σ.st.length = w.heap.size ∧ σ.st.length < (g.more w.heap.size).n := by
  have he : Ext g w (g.more w.heap.size) (w.alloc O) := ⟨by simp [Gh.more], fun o ho => by simp [Gh.more, Nat.ne_of_lt ho], fun _ _ h => h, fun b f hf => World.cell?_alloc_lt _ _ _ (h.st.cli b f hf)⟩
  have htr : Tr No g w (g.more w.heap.size) (w.alloc O) := ⟨he, by simp, Env.alloc w O hz, fun b hb hs _ => ⟨⟨heap_alloc_old w O hb, fun _ x => x⟩, by simp only [Gh.more]; rw [if_neg (by omega)]; exact hs⟩⟩
  refine ⟨⟨h.fr.evolve htr, ⟨by simp [Gh.more, h.st.n], fun o ob' ho => ?_, fun b p hb => ?_, fun b f hf => ?_⟩, h.gl.ext he, fun b hb => h.fresh b (by simp at hb; omega), fun b p hb => ?_⟩, htr.wider (fun _ x => x.elim), by simp [Gh.more, h.st.n], by simp [Gh.more, h.st.n]⟩
  · rcases Nat.lt_or_ge o σ.st.length with hlt | hge
    · rw [List.getElem?_append_left hlt] at ho
      refine (h.st.obj o ob' ho).mono (by rw [h.st.n]; exact hlt) he fun b k hb => ?_
      have hb' := h.st.inn b _ hb
      exact ⟨by simp only [Gh.more]; rw [if_neg (by omega)]; exact hb, heap_alloc_old w O hb', fun _ x => x⟩
    · rw [List.getElem?_append_right hge] at ho
      have e : o = σ.st.length := by
        rcases Nat.lt_or_ge σ.st.length o with h1 | h1
        · rw [List.getElem?_eq_none (by simp; omega)] at ho; cases ho
        · omega
      subst e
      simp at ho
      subst ho
      rw [← h.st.n]
      exact hob he
  · simp only [Gh.more] at hb
    split at hb
    · rename_i e; subst e; simp
    · have := h.st.inn b p hb; simp; omega
  · have := h.st.cli b f hf; simp; omega
  · simp only [Gh.more] at hb
    split at hb
    · rename_i e; subst e; exact h.fresh _ (Nat.le_refl _)
    · exact h.stA b p hb

theorem newobj_cells (h : S c g w pr bx σ a) {cs : List AV} {arr : Array Value} {T : TypeId} (hr : RowOK g w cs arr.toList) :
    Ext g w (g.more w.heap.size) (w.alloc (.cells arr T)) → ObjOK (g.more w.heap.size) (w.alloc (.cells arr T)) g.n (.cells cs) := fun he => by
  refine ⟨by simp [Gh.more], fun f hf => ?_, arr, T, by simp only [Gh.more, if_true]; exact heap_alloc_new w _, RelL.ext he _ _ hr.rel, hr.one, fun k x v hx hv xs ex => .inl (hr.own k x v hx (by simpa using hv) xs ex)⟩
  simp only [Gh.more, if_true] at hf
  exact Nat.lt_irrefl _ (h.st.cli _ f hf)
theorem newobj_map (h : S c g w pr bx σ a) :
    Ext g w (g.more w.heap.size) (w.alloc (.map #[] 0)) → ObjOK (g.more w.heap.size) (w.alloc (.map #[] 0)) g.n (.map []) := fun _ =>
  ⟨by simp [Gh.more], fun f hf => Nat.lt_irrefl _ (h.st.cli _ f (by simpa [Gh.more] using hf)), #[], 0, by simp only [Gh.more, if_true]; exact heap_alloc_new w _, .nil⟩
end
end Go.Cb
