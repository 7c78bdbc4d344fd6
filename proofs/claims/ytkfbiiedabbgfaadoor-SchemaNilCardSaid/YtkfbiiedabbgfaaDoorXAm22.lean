/-
  THE ABSTRACT MACHINE, part 22: operations that have nothing to do with one another may change places.
-/
import Derived.Test.YtkfbiiedabbgfaaDoorXAm21
set_option maxRecDepth 4000
set_option linter.unusedSimpArgs false
set_option linter.unusedVariables false
namespace Go.Cb
open Classical

def Atom.same (x : Atom) (σ1 σ2 : Sig) : Prop := match x with
  | .t s => σ1.τ s = σ2.τ s
  | .v i => σ1.fr.getD i .undef = σ2.fr.getD i .undef
  | .st => σ1.st = σ2.st

theorem Atom.same_refl (x : Atom) (σ : Sig) : x.same σ σ := by cases x <;> rfl
theorem Atom.same_trans {x : Atom} {σ1 σ2 σ3 : Sig} (h : x.same σ1 σ2) (h' : x.same σ2 σ3) : x.same σ1 σ3 := by
  cases x <;> exact Eq.trans h h'
theorem Atom.same_symm {x : Atom} {σ1 σ2 : Sig} (h : x.same σ1 σ2) : x.same σ2 σ1 := by
  cases x <;> exact Eq.symm h

theorem Sig.ext_atoms {σ1 σ2 : Sig} (hl : σ1.fr.length = σ2.fr.length) (h : ∀ x : Atom, x.same σ1 σ2) : σ1 = σ2 := by
  obtain ⟨fr1, τ1, st1⟩ := σ1
  obtain ⟨fr2, τ2, st2⟩ := σ2
  have e1 : τ1 = τ2 := funext fun s => h (.t s)
  have e2 : st1 = st2 := h .st
  have e3 : fr1 = fr2 := by
    apply List.ext_getElem hl
    intro i h1 h2
    have := h (.v i)
    simp only [Atom.same] at this
    simpa [h1, h2] using this
  rw [e1, e2, e3]

theorem Atom.beq_iff (x y : Atom) : Atom.beq x y = true ↔ x = y := by
  cases x <;> cases y <;> simp [Atom.beq]
theorem meets_false {xs ys : List Atom} (h : meets xs ys = false) : ∀ x ∈ xs, x ∉ ys := by
  intro x hx hy
  have : meets xs ys = true := by
    unfold meets
    rw [List.any_eq_true]
    refine ⟨x, hx, ?_⟩
    rw [List.any_eq_true]
    exact ⟨x, hy, (Atom.beq_iff x x).2 rfl⟩
  rw [h] at this; cases this

theorem read_same {q : Opd} {σ1 σ2 : Sig} (h : ∀ x ∈ q.atoms, x.same σ1 σ2) : q.read σ1 = q.read σ2 := by
  cases q <;> simp only [Opd.atoms, List.mem_cons, List.not_mem_nil, or_false, forall_eq, false_imp_iff, implies_true, Atom.same] at h <;> simp only [Opd.read] <;> first | rw [h] | rfl

theorem getD_set (fr : List AV) (i j : Nat) (a : AV) : (fr.set i a).getD j .undef = if i = j ∧ i < fr.length then a else fr.getD j .undef := by
  rw [List.getD_eq_getElem?_getD, List.getElem?_set]
  by_cases e : i = j
  · subst e
    rw [if_pos rfl]
    by_cases hl : i < fr.length
    · rw [if_pos hl, if_pos ⟨rfl, hl⟩]; rfl
    · rw [if_neg hl, if_neg (fun h => hl h.2)]
      simp [hl]
  · rw [if_neg e, if_neg (fun h => e h.1), List.getD_eq_getElem?_getD]

theorem spend_len (q : Opd) (σ : Sig) : (q.spend σ).fr.length = σ.fr.length := by cases q <;> simp [Opd.spend]
theorem spendAll_len : ∀ (qs : List Opd) (σ : Sig), (spendAll qs σ).fr.length = σ.fr.length
  | [], _ => rfl
  | q :: qs, σ => by rw [spendAll, spendAll_len qs, spend_len]
theorem put_len (d : Dst) (r : AV) (σ : Sig) : (d.put r σ).fr.length = σ.fr.length := by cases d <;> simp [Dst.put]

theorem spend_same {q : Opd} {σ1 σ2 : Sig} (hl : σ1.fr.length = σ2.fr.length) {x : Atom} (h : x.same σ1 σ2) (hq : ∀ x ∈ q.spent, x.same σ1 σ2) : x.same (q.spend σ1) (q.spend σ2) := by
  cases q <;> simp only [Opd.spend] <;> try exact h
  · rename_i s
    have hs := hq (.t s) (by simp [Opd.spent])
    cases x <;> simp only [Atom.same] at * <;> try exact h
    simp only [updT]
    split
    · rw [hs]
    · exact h
  · rename_i i
    have hs := hq (.v i) (by simp [Opd.spent])
    cases x <;> simp only [Atom.same] at * <;> try exact h
    rw [getD_set, getD_set, hl, hs, h]
theorem spendAll_same : ∀ {qs : List Opd} {σ1 σ2 : Sig}, σ1.fr.length = σ2.fr.length → ∀ {x : Atom}, x.same σ1 σ2 → (∀ q ∈ qs, ∀ x ∈ q.spent, x.same σ1 σ2) → x.same (spendAll qs σ1) (spendAll qs σ2)
  | [], _, _, _, _, h, _ => h
  | q :: qs, σ1, σ2, hl, x, h, hq => by
    simp only [spendAll]
    have h1 : ∀ y ∈ q.spent, y.same σ1 σ2 := fun y hy => hq q (by simp) y hy
    exact spendAll_same (by rw [spend_len, spend_len, hl]) (spend_same hl h h1) fun q' hq' y hy => spend_same hl (hq q' (by simp [hq']) y hy) h1
theorem spend_other {q : Opd} {σ : Sig} {x : Atom} (h : x ∉ q.spent) : x.same (q.spend σ) σ := by
  cases q <;> simp only [Opd.spend] <;> try exact x.same_refl _
  · rename_i s
    simp only [Opd.spent, List.mem_cons, List.not_mem_nil, or_false] at h
    cases x <;> simp only [Atom.same]
    rename_i t
    simp only [updT]
    rw [if_neg]
    simp only [Nat.beq_eq]
    intro e; exact h (by rw [e])
  · rename_i i
    simp only [Opd.spent, List.mem_cons, List.not_mem_nil, or_false] at h
    cases x <;> simp only [Atom.same]
    rename_i j
    rw [getD_set, if_neg]
    intro e; exact h (by rw [e.1])
theorem spendAll_other : ∀ {qs : List Opd} {σ : Sig} {x : Atom}, x ∉ qs.flatMap Opd.spent → x.same (spendAll qs σ) σ
  | [], _, x, _ => x.same_refl _
  | q :: qs, σ, x, h => by
    simp only [List.flatMap_cons, List.mem_append, not_or] at h
    exact Atom.same_trans (x := x) (spendAll_other (qs := qs) (σ := q.spend σ) h.2) (spend_other h.1)

theorem put_same {d : Dst} {r : AV} {σ1 σ2 : Sig} (hl : σ1.fr.length = σ2.fr.length) {x : Atom} (h : x.same σ1 σ2 ∨ x ∈ d.atoms) : x.same (d.put r σ1) (d.put r σ2) := by
  cases d <;> simp only [Dst.put, Dst.atoms, List.mem_cons, List.not_mem_nil, or_false] at h ⊢ <;> try exact h
  · rename_i s
    cases x <;> simp only [Atom.same, reduceCtorEq, or_false, Atom.t.injEq] at h ⊢ <;> try exact h
    rename_i t
    simp only [updT]
    split
    · rfl
    · rename_i hne
      rcases h with h | h
      · exact h
      · exact absurd (by simp [h]) hne
  · rename_i i
    cases x <;> simp only [Atom.same, reduceCtorEq, or_false, Atom.v.injEq] at h ⊢ <;> try exact h
    rename_i j
    rw [getD_set, getD_set, hl]
    split
    · rfl
    · rename_i hne
      rcases h with h | rfl
      · exact h
      · have : ¬ j < σ2.fr.length := fun hlt => hne ⟨rfl, hlt⟩
        simp [show ¬ j < σ1.fr.length by omega, this]
theorem put_other {d : Dst} {r : AV} {σ : Sig} {x : Atom} (h : x ∉ d.atoms) : x.same (d.put r σ) σ := by
  cases d <;> simp only [Dst.put, Dst.atoms, List.mem_cons, List.not_mem_nil, or_false] at h ⊢ <;> try exact x.same_refl _
  · rename_i s
    cases x <;> simp only [Atom.same]
    rename_i t
    simp only [updT]
    rw [if_neg]
    simp only [Nat.beq_eq]
    intro e; exact h (by rw [e])
  · rename_i i
    cases x <;> simp only [Atom.same]
    rename_i j
    rw [getD_set, if_neg]
    intro e; exact h (by rw [e.1])
theorem setfr_same {i : Nat} {b : AV} {st1 st2 : St} {σ1 σ2 : Sig} (hl : σ1.fr.length = σ2.fr.length) {x : Atom} (h : x.same { σ1 with st := st1 } { σ2 with st := st2 } ∨ x = .v i) :
    x.same { σ1 with fr := σ1.fr.set i b, st := st1 } { σ2 with fr := σ2.fr.set i b, st := st2 } := by
  cases x <;> simp only [Atom.same, reduceCtorEq, or_false, Atom.v.injEq] at h ⊢ <;> try exact h
  rename_i j
  rw [getD_set, getD_set, hl]
  split
  · rfl
  · rename_i hne
    rcases h with h | rfl
    · exact h
    · have : ¬ j < σ2.fr.length := fun hlt => hne ⟨rfl, hlt⟩
      simp [show ¬ j < σ1.fr.length by omega, this]

/-! what an operation's meaning looks at -/
theorem sem_st {k : Kind} (hk : k.setSt = false) {call : CallT} {as : List AV} {b r b' : AV} {st st' : St} (h : sem k call as b st = some (r, b', st')) : st' = st := by
  cases k <;> simp only [Kind.setSt, Bool.true_eq_false] at hk <;> simp only [sem, semMv, semPick, semNilchk, semAlloc, semBoxV, semAllocO, semBoxO, semBuild, semBslice, semLdLc, semLdSt, semLdRo, semLdLcS, semLdStS, semStLc, semStSt, semFad, semFld, semIad, semIadA, semIdxS, semSlS, semSlL, semSlZ, semSlA, semBin, semBinB, semBinP, semUn, semConv, semMkF, semMkM, semMget, semMset, semExt, semCall, semCallV, semLenS, semLenL, semApp, semB2s] at h
  all_goals (repeat' split at h)
  all_goals first
    | (cases h; done)
    | (simp only [Option.some.injEq, Prod.mk.injEq] at h; exact h.2.2.symm)
    | (obtain ⟨z, hz, h⟩ := Option.map_eq_some_iff.1 h; simp only [Prod.mk.injEq] at h; exact h.2.2.symm)
    | (obtain ⟨⟨l, u⟩, hz, h⟩ := Option.map_eq_some_iff.1 h; simp only [Prod.mk.injEq] at h; exact h.2.2.symm)
theorem sem_bx {k : Kind} (hk : k.alters = false) {call : CallT} {as : List AV} {b r b' : AV} {st st' : St} (h : sem k call as b st = some (r, b', st')) : b' = b := by
  cases k <;> simp only [Kind.alters, Bool.true_eq_false] at hk <;> simp only [sem, semMv, semPick, semNilchk, semAlloc, semBoxV, semAllocO, semBoxO, semBuild, semBslice, semLdLc, semLdSt, semLdRo, semLdLcS, semLdStS, semStLc, semStSt, semFad, semFld, semIad, semIadA, semIdxS, semSlS, semSlL, semSlZ, semSlA, semBin, semBinB, semBinP, semUn, semConv, semMkF, semMkM, semMget, semMset, semExt, semCall, semCallV, semLenS, semLenL, semApp, semB2s] at h
  all_goals (repeat' split at h)
  all_goals first
    | (cases h; done)
    | (simp only [Option.some.injEq, Prod.mk.injEq] at h; exact h.2.1.symm)
    | (simp only [fL_eq, Option.some.injEq, Prod.mk.injEq] at h; exact h.2.1.symm)
    | (obtain ⟨z, hz, h⟩ := Option.map_eq_some_iff.1 h; simp only [Prod.mk.injEq] at h; exact h.2.1.symm)
    | (obtain ⟨⟨l, u⟩, hz, h⟩ := Option.map_eq_some_iff.1 h; simp only [Prod.mk.injEq] at h; exact h.2.1.symm)
    | (obtain ⟨z, hz, h⟩ := Option.bind_eq_some_iff.1 h; simp only [Option.some.injEq, Prod.mk.injEq] at h; exact h.2.1.symm)
theorem sem_use {k : Kind} (hk : k.useSt = false) {call : CallT} {as : List AV} {b r b' : AV} {st st' : St} (h : sem k call as b st = some (r, b', st')) (st2 : St) : sem k call as b st2 = some (r, b', st2) := by
  cases k <;> simp only [Kind.useSt, Bool.true_eq_false] at hk <;> simp only [sem, semMv, semPick, semNilchk, semAlloc, semBoxV, semAllocO, semBoxO, semBuild, semBslice, semLdLc, semLdSt, semLdRo, semLdLcS, semLdStS, semStLc, semStSt, semFad, semFld, semIad, semIadA, semIdxS, semSlS, semSlL, semSlZ, semSlA, semBin, semBinB, semBinP, semUn, semConv, semMkF, semMkM, semMget, semMset, semExt, semCall, semCallV, semLenS, semLenL, semApp, semB2s] at h ⊢
  all_goals (repeat' split at h)
  all_goals first
    | (cases h; done)
    | (simp only [Option.some.injEq, Prod.mk.injEq] at h; obtain ⟨rfl, rfl, rfl⟩ := h; simp_all; done)
    | (obtain ⟨z, hz, h⟩ := Option.map_eq_some_iff.1 h; simp only [Prod.mk.injEq] at h; obtain ⟨rfl, rfl, rfl⟩ := h; simp_all; done)
    | (obtain ⟨⟨l, u⟩, hz, h⟩ := Option.map_eq_some_iff.1 h; simp only [Prod.mk.injEq] at h; obtain ⟨rfl, rfl, rfl⟩ := h; simp_all; done)
    | skip
end Go.Cb
