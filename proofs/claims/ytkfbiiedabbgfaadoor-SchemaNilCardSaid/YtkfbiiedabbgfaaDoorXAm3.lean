/-
  THE ABSTRACT MACHINE, part 3: when a frame of the model, and its memory, stand for an abstract state; and that they go on doing so.
-/
import Derived.Test.YtkfbiiedabbgfaaDoorXAm2
namespace Go.Cb

/-- the spare room behind a list is its own -/
def Own (g : Gh) (w : World) (mine : Nat → Prop) (xs : List (List AV)) (v : Value) : Prop :=
  (∃ a n, v = .slice a n n) ∨
  ∃ b n cap sz arr T, v = .slice (some (ad b 0)) n cap ∧ mine b ∧ xs ≠ [] ∧ (∀ r ∈ xs, r.length = sz) ∧ w.heap[b]? = some (.cells arr T (0, 0)) ∧
    arr.size = cap * sz ∧ cap ≤ maxLen ∧ ∀ f, n * sz ≤ f → ¬ g.cl b f

def OwnC (g : Gh) (w : World) (mine : Nat → Prop) (c : AV) (v : Value) : Prop := ∀ xs, c = .list true xs → Own g w mine xs v
def OwnN (c : AV) (v : Value) : Prop := ∀ xs, c = .list true xs → ∃ a n, v = .slice a n n
def OwnA (a : AV) (v : Value) : Prop := ∀ cs, a = .agg cs → ∀ vs : Array Value, v = .agg vs → ∀ (k : Nat) (c : AV) (u : Value), cs[k]? = some c → vs[k]? = some u → OwnN c u

inductive Pl where
  | var (i : Nat) | tmp (s : Nat) | cell (i k : Nat) | box (i : Nat) | fly
  deriving DecidableEq

structure ValOK (g : Gh) (w : World) (mine : Nat → Prop) (a : AV) (v : Value) : Prop where
  rel : Rel g w a v
  own : OwnC g w mine a v
  agg : OwnA a v

def BoxOK (g : Gh) (w : World) (pr : Nat → Option Pl) (b i : Nat) (cs : List AV) : Prop :=
  pr b = some (.box i) ∧ (∀ f, ¬ g.cl b f) ∧ ∃ arr T, w.heap[b]? = some (.cells arr T (0, 0)) ∧ RelL g w cs arr.toList ∧ (∀ c ∈ arr.toList, c.oneCell' = true) ∧
    ∀ (k : Nat) (c : AV) (v : Value), cs[k]? = some c → arr[k]? = some v → OwnC g w (fun b' => pr b' = some (.cell i k)) c v

def VarOK (g : Gh) (w : World) (pr : Nat → Option Pl) (bx : Nat → Nat) (i : Nat) (a : AV) (v : Value) : Prop :=
  match a with
  | .box cs => v = .pointer (some (ad (bx i) 0)) ∧ BoxOK g w pr (bx i) i cs
  | .loc .. => False
  | a => ValOK g w (fun b => pr b = some (.var i)) a v

def TmpOK (g : Gh) (w : World) (pr : Nat → Option Pl) (bx : Nat → Nat) (fr : List AV) (s : Nat) (a : AV) (v : Value) : Prop :=
  match a with
  | .box _ => False
  | .loc j off => (∃ cs, fr.getD j .undef = .box cs) ∧ v = .pointer (some (ad (bx j) off))
  | a => ValOK g w (fun b => pr b = some (.tmp s)) a v

structure FR (A : Nat → Prop) (g : Gh) (w : World) (pr : Nat → Option Pl) (bx : Nat → Nat) (slots bxs : List Nat) (nt : Nat) (fr : List AV) (τ : Nat → AV) (tmps : Array Value) : Prop where
  size : tmps.size = nt
  len : fr.length = slots.length
  var : ∀ i s, slots[i]? = some s → VarOK g w pr bx i (fr.getD i .undef) (tmps.getD s undef)
  tmp : ∀ s, s ∉ slots → TmpOK g w pr bx fr s (τ s) (tmps.getD s undef)
  prv : ∀ b p, pr b = some p → g.sr b = none ∧ b < w.heap.size ∧ A b
  bxs : ∀ i cs, fr.getD i .undef = .box cs → i ∈ bxs

inductive RelM (g : Gh) (w : World) : List (AV × AV) → List MapEntry → Prop where
  | nil : RelM g w [] []
  | cons {k v : AV} {e : MapEntry} {es : List (AV × AV)} {l : List MapEntry} (hk : Rel g w k e.key) (hv : Rel g w v e.val) (hn : v.weak = v) (h : RelM g w es l) : RelM g w ((k, v) :: es) (e :: l)

def ObjOK (g : Gh) (w : World) (o : Nat) : Obj → Prop
  | .cells cs => g.sr (g.m o) = some (o, none) ∧ (∀ f, ¬ g.cl (g.m o) f) ∧ ∃ arr T, w.heap[g.m o]? = some (.cells arr T (0, 0)) ∧ RelL g w cs arr.toList ∧
      (∀ c ∈ arr.toList, c.oneCell' = true) ∧ ∀ (k : Nat) (c : AV) (v : Value), cs[k]? = some c → arr[k]? = some v → OwnC g w (fun b => g.sr b = some (o, some k)) c v
  | .map es => g.sr (g.m o) = some (o, none) ∧ (∀ f, ¬ g.cl (g.m o) f) ∧ ∃ ents clock, w.heap[g.m o]? = some (.map ents clock) ∧ RelM g w es ents.toList
  | .dead => True

structure SRel (g : Gh) (w : World) (st : St) : Prop where
  n : g.n = st.length
  obj : ∀ o ob, st[o]? = some ob → ObjOK g w o ob
  inn : ∀ b p, g.sr b = some p → b < w.heap.size
  cli : ∀ b f, g.cl b f → b < w.heap.size

/-- block b is as it was -/
def Same (g : Gh) (w : World) (g' : Gh) (w' : World) (b : Nat) : Prop := w'.heap[b]? = w.heap[b]? ∧ ∀ f, g'.cl b f → g.cl b f

/-- what is outside is as it was; and what may be written -/
structure Env (w w' : World) : Prop where
  os : w'.os = w.os
  out : w'.output = w.output
  fz : ∀ a, w'.frozen? a = w.frozen? a

theorem Env.refl (w : World) : Env w w := ⟨rfl, rfl, fun _ => rfl⟩
theorem Env.trans {w w' w'' : World} (h : Env w w') (h' : Env w' w'') : Env w w'' := ⟨h'.os.trans h.os, h'.out.trans h.out, fun a => (h'.fz a).trans (h.fz a)⟩
theorem Env.drawn {w w' : World} (h : w'.heap = w.heap) (h1 : w'.os = w.os) (h2 : w'.output = w.output) : Env w w' := ⟨h1, h2, fun a => by unfold World.frozen?; rw [h]⟩
theorem Env.alloc (w : World) (ob : _root_.Go.Obj) (h : ∀ c t z, ob = .cells c t z → z = (0, 0)) : Env w (w.alloc ob) := by
  refine ⟨rfl, rfl, fun a => ?_⟩
  unfold World.frozen?
  rcases Nat.lt_trichotomy a.block w.heap.size with hb | hb | hb
  · rw [heap_alloc_old w ob hb]
  · rw [hb, heap_alloc_new w ob, Array.getElem?_eq_none (by omega)]
    cases ob with
    | cells c t z =>
      rw [h c t z rfl]
      simp
    | _ => rfl
  · rw [Array.getElem?_eq_none (by simp; omega), Array.getElem?_eq_none (by omega)]
theorem Env.setRow (w : World) (b : Nat) (cs : Array Value) : Env w (w.setRow b cs) := by
  refine ⟨rfl, rfl, fun a => ?_⟩
  unfold World.frozen? World.setRow
  simp only [Array.getElem?_modify]
  by_cases e : b = a.block
  · rw [if_pos e]
    cases w.heap[a.block]? with
    | none => rfl
    | some o => cases o <;> rfl
  · rw [if_neg e]

/-- from one state to a later one; A: the blocks that are one's own to change -/
structure Tr (A : Nat → Prop) (g : Gh) (w : World) (g' : Gh) (w' : World) : Prop where
  ext : Ext g w g' w'
  size : w.heap.size ≤ w'.heap.size
  env : Env w w'
  keep : ∀ b, b < w.heap.size → g.sr b = none → ¬ A b → Same g w g' w' b ∧ g'.sr b = none

theorem Tr.refl (A : Nat → Prop) (g : Gh) (w : World) : Tr A g w g w := ⟨Ext.refl g w, Nat.le_refl _, Env.refl w, fun _ _ h _ => ⟨⟨rfl, fun _ h => h⟩, h⟩⟩
theorem Tr.trans {A : Nat → Prop} {g g' g'' : Gh} {w w' w'' : World} (h : Tr A g w g' w') (h' : Tr A g' w' g'' w'') : Tr A g w g'' w'' :=
  ⟨h.ext.trans h'.ext, Nat.le_trans h.size h'.size, h.env.trans h'.env, fun b hb hs ha => by
    obtain ⟨⟨e1, c1⟩, s1⟩ := h.keep b hb hs ha
    obtain ⟨⟨e2, c2⟩, s2⟩ := h'.keep b (Nat.lt_of_lt_of_le hb h.size) s1 ha
    exact ⟨⟨e2.trans e1, fun f hf => c1 f (c2 f hf)⟩, s2⟩⟩
theorem Tr.wider {A B : Nat → Prop} {g g' : Gh} {w w' : World} (h : Tr A g w g' w') (hab : ∀ b, A b → B b) : Tr B g w g' w' :=
  ⟨h.ext, h.size, h.env, fun b hb hs hB => h.keep b hb hs (fun ha => hB (hab b ha))⟩

theorem Own.mono {g g' : Gh} {w w' : World} {mine mine' : Nat → Prop} {xs : List (List AV)} {v : Value} (h : Own g w mine xs v)
    (hm : ∀ b, mine b → mine' b ∧ Same g w g' w' b) : Own g' w' mine' xs v := by
  rcases h with h | ⟨b, n, cap, sz, arr, T, e, hb, hx, hr, hh, hs, hc, hcl⟩
  · exact .inl h
  · obtain ⟨hm', he, hcl'⟩ := hm b hb
    exact .inr ⟨b, n, cap, sz, arr, T, e, hm', hx, hr, he.trans hh, hs, hc, fun f hf hf' => hcl f hf (hcl' f hf')⟩
theorem OwnC.mono {g g' : Gh} {w w' : World} {mine mine' : Nat → Prop} {c : AV} {v : Value} (h : OwnC g w mine c v)
    (hm : ∀ b, mine b → mine' b ∧ Same g w g' w' b) : OwnC g' w' mine' c v := fun xs e => (h xs e).mono hm
theorem ValOK.mono {g g' : Gh} {w w' : World} {mine mine' : Nat → Prop} {a : AV} {v : Value} (h : ValOK g w mine a v) (he : Ext g w g' w')
    (hm : ∀ b, mine b → mine' b ∧ Same g w g' w' b) : ValOK g' w' mine' a v := ⟨h.rel.ext he, h.own.mono hm, h.agg⟩
theorem BoxOK.mono {g g' : Gh} {w w' : World} {pr pr' : Nat → Option Pl} {b i : Nat} {cs : List AV} (h : BoxOK g w pr b i cs) (he : Ext g w g' w')
    (hm : ∀ b p, pr b = some p → (p = .box i ∨ ∃ k, p = .cell i k) → pr' b = some p ∧ Same g w g' w' b) : BoxOK g' w' pr' b i cs := by
  obtain ⟨h1, h2, arr, T, h3, h4, h5, h6⟩ := h
  obtain ⟨p1, e1, c1⟩ := hm b _ h1 (.inl rfl)
  exact ⟨p1, fun f hf => h2 f (c1 f hf), arr, T, e1.trans h3, RelL.ext he _ _ h4, h5, fun k c v hc hv => (h6 k c v hc hv).mono fun b' hb' => hm b' _ hb' (.inr ⟨k, rfl⟩)⟩
theorem VarOK.mono {g g' : Gh} {w w' : World} {pr pr' : Nat → Option Pl} {bx bx' : Nat → Nat} {i : Nat} {a : AV} {v : Value} (h : VarOK g w pr bx i a v) (he : Ext g w g' w')
    (hm : ∀ b p, pr b = some p → (p = .var i ∨ p = .box i ∨ ∃ k, p = .cell i k) → pr' b = some p ∧ Same g w g' w' b) (hbx : ∀ cs, a = .box cs → bx' i = bx i) : VarOK g' w' pr' bx' i a v := by
  cases a <;> first
    | exact ValOK.mono h he fun b hb => hm b _ hb (.inl rfl)
    | exact h
    | (rename_i cs
       refine ⟨by rw [hbx cs rfl]; exact h.1, ?_⟩
       rw [hbx cs rfl]
       exact BoxOK.mono h.2 he fun b p hb hp => hm b p hb (.inr hp))
theorem TmpOK.mono {g g' : Gh} {w w' : World} {pr pr' : Nat → Option Pl} {bx bx' : Nat → Nat} {fr fr' : List AV} {s : Nat} {a : AV} {v : Value} (h : TmpOK g w pr bx fr s a v) (he : Ext g w g' w')
    (hm : ∀ b, pr b = some (.tmp s) → pr' b = some (.tmp s) ∧ Same g w g' w' b) (hbx : ∀ j cs, fr.getD j .undef = .box cs → bx' j = bx j ∧ ∃ cs', fr'.getD j .undef = .box cs') : TmpOK g' w' pr' bx' fr' s a v := by
  cases a <;> first
    | exact ValOK.mono h he hm
    | exact h
    | (obtain ⟨⟨cs, hc⟩, hv⟩ := h
       obtain ⟨e1, e2⟩ := hbx _ cs hc
       exact ⟨e2, by rw [e1]; exact hv⟩)

theorem FR.evolve {A : Nat → Prop} {g g' : Gh} {w w' : World} {pr : Nat → Option Pl} {bx : Nat → Nat} {slots bxs : List Nat} {nt : Nat} {fr : List AV} {τ : Nat → AV} {tmps : Array Value}
    (h : FR A g w pr bx slots bxs nt fr τ tmps) (ht : Tr (fun _ => False) g w g' w') : FR A g' w' pr bx slots bxs nt fr τ tmps := by
  have key : ∀ b p, pr b = some p → Same g w g' w' b ∧ g'.sr b = none := fun b p hb => by
    obtain ⟨h1, h2, _⟩ := h.prv b p hb
    exact ht.keep b h2 h1 (fun x => x)
  exact ⟨h.size, h.len, fun i s hs => (h.var i s hs).mono ht.ext (fun b p hb _ => ⟨hb, (key b p hb).1⟩) (fun _ _ => rfl),
    fun s hs => (h.tmp s hs).mono ht.ext (fun b hb => ⟨hb, (key b _ hb).1⟩) (fun j cs hj => ⟨rfl, cs, hj⟩),
    fun b p hb => ⟨(key b p hb).2, Nat.lt_of_lt_of_le (h.prv b p hb).2.1 ht.size, (h.prv b p hb).2.2⟩, h.bxs⟩

theorem RelM.ext {g g' : Gh} {w w' : World} (he : Ext g w g' w') {es : List (AV × AV)} {l : List MapEntry} (h : RelM g w es l) : RelM g' w' es l := by
  induction h with
  | nil => exact .nil
  | cons hk hv hn _ ih => exact .cons (hk.ext he) (hv.ext he) hn ih

theorem ObjOK.mono {g g' : Gh} {w w' : World} {o : Nat} {ob : Obj} (ho : o < g.n) (h : ObjOK g w o ob) (he : Ext g w g' w')
    (hm : ∀ b k, g.sr b = some (o, k) → g'.sr b = some (o, k) ∧ Same g w g' w' b) : ObjOK g' w' o ob := by
  cases ob with
  | cells cs =>
    obtain ⟨h1, h2, arr, T, h3, h4, h5, h6⟩ := h
    obtain ⟨p1, e1, c1⟩ := hm _ _ h1
    have em := he.m o ho
    refine ⟨by rw [em]; exact p1, fun f hf => h2 f (c1 f (by rw [em] at hf; exact hf)), arr, T, by rw [em]; exact e1.trans h3, RelL.ext he _ _ h4, h5, fun k c v hc hv => (h6 k c v hc hv).mono fun b' hb' => hm b' _ hb'⟩
  | map es =>
    obtain ⟨h1, hc, ents, clock, h2, h3⟩ := h
    obtain ⟨p1, e1, c1⟩ := hm _ _ h1
    have em := he.m o ho
    exact ⟨by rw [em]; exact p1, fun f hf => hc f (c1 f (by rw [em] at hf; exact hf)), ents, clock, by rw [em]; exact e1.trans h2, h3.ext he⟩
  | dead => trivial

/-- nothing of the store's has been touched -/
theorem SRel.evolve {g g' : Gh} {w w' : World} {st : St} (h : SRel g w st) (he : Ext g w g' w') (hn : g'.n = g.n) (hsz : w.heap.size ≤ w'.heap.size)
    (hm : ∀ b p, g.sr b = some p → g'.sr b = some p ∧ Same g w g' w' b) (hsr : ∀ b p, g'.sr b = some p → g.sr b = some p) (hcl : ∀ b f, g'.cl b f → g.cl b f ∨ b < w'.heap.size) : SRel g' w' st :=
  ⟨hn.trans h.n, fun o ob hob => (h.obj o ob hob).mono (by rw [h.n]; exact (List.getElem?_eq_some_iff.1 hob).1) he fun b k hb => hm b _ hb,
    fun b p hb => Nat.lt_of_lt_of_le (h.inn b p (hsr b p hb)) hsz, fun b f hf => (hcl b f hf).elim (fun h1 => Nat.lt_of_lt_of_le (h.cli b f h1) hsz) id⟩

/-! writing a result into its place -/
theorem getD_set_same {tmps : Array Value} {s : Nat} {v : Value} (h : s < tmps.size) : (tmps.setIfInBounds s v).getD s undef = v := by
  simp [Array.getD_eq_getD_getElem?, h]
theorem getD_set_other {tmps : Array Value} {s t : Nat} {v : Value} (h : t ≠ s) : (tmps.setIfInBounds s v).getD t undef = tmps.getD t undef := by
  simp [Array.getD_eq_getD_getElem?, Ne.symm h]
theorem getDL_set_same {fr : List AV} {i : Nat} {a : AV} (h : i < fr.length) : (fr.set i a).getD i .undef = a := by simp [h]
theorem getDL_set_other {fr : List AV} {i j : Nat} {a : AV} (h : j ≠ i) : (fr.set i a).getD j .undef = fr.getD j .undef := by
  simp [Ne.symm h]

section
variable {A : Nat → Prop} {g : Gh} {w : World} {pr : Nat → Option Pl} {bx : Nat → Nat} {slots bxs : List Nat} {nt : Nat} {fr : List AV} {τ : Nat → AV} {tmps : Array Value}

theorem slot_ne (hnd : slots.Nodup) {i j s t : Nat} (hi : slots[i]? = some s) (hj : slots[j]? = some t) (h : i ≠ j) : s ≠ t := by
  intro e
  subst e
  obtain ⟨hi', ei⟩ := List.getElem?_eq_some_iff.1 hi
  obtain ⟨hj', ej⟩ := List.getElem?_eq_some_iff.1 hj
  exact h ((List.getElem_inj hnd).1 (ei.trans ej.symm))

theorem FR.put_t (h : FR A g w pr bx slots bxs nt fr τ tmps) {s : Nat} (hs : s ∉ slots) (hn : s < nt) {a : AV} {v : Value} (hv : TmpOK g w pr bx fr s a v) :
    FR A g w pr bx slots bxs nt fr (updT τ s a) (tmps.setIfInBounds s v) := by
  refine ⟨by simpa using h.size, h.len, fun i t ht => ?_, fun t ht => ?_, h.prv, h.bxs⟩
  · have hne : t ≠ s := fun e => hs (e ▸ List.mem_of_getElem? ht)
    rw [getD_set_other hne]; exact h.var i t ht
  · by_cases e : t = s
    · subst e
      rw [getD_set_same (by rw [h.size]; exact hn)]
      simpa [updT] using hv
    · rw [getD_set_other e]
      have : updT τ s a t = τ t := by simp [updT, e]
      rw [this]; exact h.tmp t ht

theorem FR.put_v (h : FR A g w pr bx slots bxs nt fr τ tmps) (hnd : slots.Nodup) (hlt : ∀ s ∈ slots, s < nt) {i s : Nat} (hs : slots[i]? = some s) (hb : i ∉ bxs) {a : AV} {v : Value}
    (hv : VarOK g w pr bx i a v) (hnb : ∀ cs, a ≠ .box cs) : FR A g w pr bx slots bxs nt (fr.set i a) τ (tmps.setIfInBounds s v) := by
  have hi : i < fr.length := by rw [h.len]; exact (List.getElem?_eq_some_iff.1 hs).1
  have hold : ∀ j cs, fr.getD j .undef = .box cs → (fr.set i a).getD j .undef = .box cs := fun j cs hj => by
    have : j ≠ i := fun e => hb (e ▸ h.bxs j cs hj)
    rw [getDL_set_other this]; exact hj
  refine ⟨by simpa using h.size, by simpa using h.len, fun j t ht => ?_, fun t ht => ?_, h.prv, fun j cs hj => ?_⟩
  · by_cases e : j = i
    · subst e
      obtain rfl : t = s := Option.some.inj (ht.symm.trans hs)
      rw [getD_set_same (by rw [h.size]; exact hlt t (List.mem_of_getElem? ht)), getDL_set_same hi]
      exact hv
    · rw [getD_set_other (slot_ne hnd ht hs e), getDL_set_other e]; exact h.var j t ht
  · have hne : t ≠ s := fun e => ht (e ▸ List.mem_of_getElem? hs)
    rw [getD_set_other hne]
    exact (h.tmp t ht).mono (Ext.refl g w) (fun b hb => ⟨hb, rfl, fun _ x => x⟩) (fun j cs hj => ⟨rfl, cs, hold j cs hj⟩)
  · by_cases e : j = i
    · subst e; rw [getDL_set_same hi] at hj; exact absurd hj (hnb cs)
    · rw [getDL_set_other e] at hj; exact h.bxs j cs hj

/-- a weak copy owns nothing -/
theorem ValOK.of_weak {mine : Nat → Prop} {a : AV} {v : Value} (h : Rel g w a v) : ValOK g w mine a.weak v := by
  refine ⟨h.weak, fun xs e => ?_, fun cs e vs _ k c u hc _ xs e2 => ?_⟩
  · cases a <;> simp [AV.weak] at e
  · cases a <;> simp [AV.weak] at e
    subst e
    rw [List.getElem?_map] at hc
    cases h1 : (‹List AV›)[k]? with
    | none => simp [h1] at hc
    | some d =>
      simp [h1] at hc
      subst hc
      cases d <;> simp [AV.weak1] at e2
end
end Go.Cb
