/-
  THE ABSTRACT MACHINE, part 23: two operations that are apart change places.
-/
import Derived.Test.YtkfbiiedabbgfaaDoorXAm22
set_option maxRecDepth 4000
set_option linter.unusedSimpArgs false
namespace Go.Cb
open Classical

section
variable {p q : AOper} {call : CallT} {σ σ' σ1 σ2 : Sig}

theorem goOp_mk {r b' : AV} {st' : St} (h : sem p.kind call (p.args.map (·.read σ)) (boxOf p σ) σ.st = some (r, b', st')) :
    goOp call p σ = some (p.dst.put r { spendAll p.args σ with fr := (match p.box with | some i => (spendAll p.args σ).fr.set i b' | none => (spendAll p.args σ).fr), st := st' }) := by
  rw [goOp_eq]
  cases hb : p.box with
  | none =>
    have e : boxOf p σ = .undef := by simp only [boxOf, hb]
    rw [e] at h
    simp only [hb, h]
  | some i =>
    have e : boxOf p σ = σ.fr.getD i .undef := by simp only [boxOf, hb]
    rw [e] at h
    simp only [hb, h]

theorem useSt_of_setSt {k : Kind} (h : k.setSt = true) : k.useSt = true := by cases k <;> first | rfl | cases h
theorem spent_atoms (x : Opd) : ∀ y ∈ x.spent, y ∈ x.atoms := by cases x <;> simp [Opd.spent, Opd.atoms]
theorem spendAll_st : ∀ (qs : List Opd) (σ : Sig), (spendAll qs σ).st = σ.st
  | [], _ => rfl
  | x :: qs, σ => by
    rw [spendAll, spendAll_st qs]
    cases x <;> rfl

theorem go_frame (h : goOp call p σ = some σ') : (∀ x, x ∉ p.writes → x.same σ' σ) ∧ σ'.fr.length = σ.fr.length := by
  obtain ⟨r, b', st', hs, rfl⟩ := goOp_some h
  refine ⟨fun x hx => ?_, ?_⟩
  · simp only [AOper.writes, List.mem_append, not_or] at hx
    obtain ⟨⟨⟨h1, h2⟩, h3⟩, h4⟩ := hx
    refine Atom.same_trans (put_other h1) ?_
    have hsp := spendAll_other (qs := p.args) (σ := σ) h2
    have hst : x = .st → st' = σ.st := fun e => by
      subst e
      cases hk : p.kind.setSt with
      | true => rw [hk] at h4; simp at h4
      | false => exact sem_st hk hs
    cases hb : p.box with
    | none =>
      cases x <;> simp only [Atom.same] at hsp ⊢
      · exact hsp
      · exact hsp
      · exact hst rfl
    | some i =>
      cases x with
      | t s => exact hsp
      | st => exact hst rfl
      | v j =>
        simp only [Atom.same] at hsp ⊢
        rw [getD_set]
        split
        · rename_i hc
          obtain ⟨rfl, _⟩ := hc
          cases hk : p.kind.alters with
          | true => rw [hb, hk] at h3; simp at h3
          | false =>
            rw [sem_bx hk hs]
            simp only [boxOf, hb]
        · exact hsp
  · rw [put_len]
    cases hb : p.box with
    | none => exact spendAll_len _ _
    | some i => simp [spendAll_len]

theorem go_local (hl : σ1.fr.length = σ2.fr.length) (hr : ∀ x ∈ p.reads, x.same σ1 σ2) {σ1' : Sig} (h : goOp call p σ1 = some σ1') :
    ∃ σ2', goOp call p σ2 = some σ2' ∧ ∀ x : Atom, (x.same σ1 σ2 ∨ x ∈ p.writes) → x.same σ1' σ2' := by
  obtain ⟨r, b', st', hs, rfl⟩ := goOp_some h
  have hargs : p.args.map (·.read σ1) = p.args.map (·.read σ2) := List.map_congr_left fun y hy => read_same fun x hx => hr x (by
    simp only [AOper.reads, List.mem_append, List.mem_flatMap]
    exact .inl (.inl (.inl ⟨y, hy, hx⟩)))
  have hbox : boxOf p σ1 = boxOf p σ2 := by
    unfold boxOf
    cases hb : p.box with
    | none => rfl
    | some i =>
      have := hr (.v i) (by simp [AOper.reads, hb])
      exact this
  have hspent : ∀ y ∈ p.args, ∀ x ∈ y.spent, x.same σ1 σ2 := fun y hy x hx => hr x (by
    simp only [AOper.reads, List.mem_append, List.mem_flatMap]
    exact .inl (.inl (.inl ⟨y, hy, spent_atoms y x hx⟩)))
  have hlen : (spendAll p.args σ1).fr.length = (spendAll p.args σ2).fr.length := by rw [spendAll_len, spendAll_len, hl]
  -- the meaning on the other side
  obtain ⟨st2, hs2, hst2⟩ : ∃ st2, sem p.kind call (p.args.map (·.read σ2)) (boxOf p σ2) σ2.st = some (r, b', st2) ∧ ∀ x : Atom, (x.same σ1 σ2 ∨ (x = .st ∧ p.kind.setSt = true)) → x.same { spendAll p.args σ1 with st := st' } { spendAll p.args σ2 with st := st2 } := by
    have other : ∀ (st2 : St) (x : Atom), x ≠ .st → x.same σ1 σ2 → x.same { spendAll p.args σ1 with st := st' } { spendAll p.args σ2 with st := st2 } := fun st2 x hx h => by
      have := spendAll_same hl h hspent
      cases x <;> first | exact this | exact absurd rfl hx
    cases hu : p.kind.useSt with
    | true =>
      have he : σ1.st = σ2.st := hr .st (by simp [AOper.reads, hu])
      rw [hargs, hbox, he] at hs
      refine ⟨st', hs, fun x hx => ?_⟩
      cases x with
      | st => rfl
      | t s => exact other _ _ (by simp) (hx.resolve_right (by simp))
      | v i => exact other _ _ (by simp) (hx.resolve_right (by simp))
    | false =>
      have hset : p.kind.setSt = false := by
        cases hk : p.kind.setSt with
        | false => rfl
        | true => rw [useSt_of_setSt hk] at hu; cases hu
      have e1 := sem_st hset hs
      rw [hargs, hbox] at hs
      refine ⟨σ2.st, sem_use hu hs σ2.st, fun x hx => ?_⟩
      rw [hset] at hx
      have hx := hx.resolve_right (by simp)
      cases x with
      | st => rw [e1]; exact hx
      | t s => exact other _ _ (by simp) hx
      | v i => exact other _ _ (by simp) hx
  refine ⟨_, goOp_mk hs2, fun x hx => put_same ?_ ?_⟩
  · cases hb : p.box with
    | none => exact hlen
    | some i => simp [hlen]
  · by_cases hd : x ∈ p.dst.atoms
    · exact .inr hd
    left
    -- either as before, or written
    have hx' : x.same σ1 σ2 ∨ (∃ i, p.box = some i ∧ x = .v i) ∨ (x = .st ∧ p.kind.setSt = true) := by
      rcases hx with hx | hx
      · exact .inl hx
      · simp only [AOper.writes, List.mem_append] at hx
        rcases hx with ((hx | hx) | hx) | hx
        · exact absurd hx hd
        · obtain ⟨y, hy, hx⟩ := List.mem_flatMap.1 hx
          exact .inl (hspent y hy x hx)
        · right; left
          cases hb : p.box with
          | none => rw [hb] at hx; simp at hx
          | some i =>
            rw [hb] at hx
            refine ⟨i, rfl, ?_⟩
            simp only at hx
            split at hx
            · simpa using hx
            · simp at hx
        · right; right
          split at hx
          · rename_i hk; exact ⟨by simpa using hx, hk⟩
          · simp at hx
    cases hb : p.box with
    | none =>
      rcases hx' with hx' | ⟨i, hi, _⟩ | hx'
      · exact hst2 x (.inl hx')
      · rw [hb] at hi; cases hi
      · exact hst2 x (.inr hx')
    | some i =>
      refine setfr_same hlen ?_
      rcases hx' with hx' | ⟨j, hj, e⟩ | hx'
      · exact .inl (hst2 x (.inl hx'))
      · rw [hb] at hj; cases hj; exact .inr e
      · exact .inl (hst2 x (.inr hx'))

/-! with guards -/
theorem guard_atoms {x : Opd} {want : Bool} (hg : p.guard = some (x, want)) : ∀ y ∈ x.atoms, y ∈ p.reads := fun y hy => by
  simp only [AOper.reads, hg, List.mem_append]
  exact .inl (.inr hy)
theorem dst_writes : ∀ y ∈ p.dst.atoms, y ∈ p.writes := fun y hy => by
  simp only [AOper.writes, List.mem_append]
  exact .inl (.inl (.inl hy))

theorem step_frame (h : stepOp call p σ = some σ') : (∀ x, x ∉ p.writes → x.same σ' σ) ∧ σ'.fr.length = σ.fr.length := by
  unfold stepOp at h
  have hskip : ∀ {σ'}, some (p.dst.put (.tuple []) σ) = some σ' → (∀ x, x ∉ p.writes → x.same σ' σ) ∧ σ'.fr.length = σ.fr.length := fun {σ'} h => by
    obtain rfl := Option.some.inj h
    exact ⟨fun x hx => put_other fun hd => hx (dst_writes x hd), put_len _ _ _⟩
  split at h
  · exact go_frame h
  · split at h
    · split at h
      · exact go_frame h
      · exact hskip h
    · exact hskip h
    · cases h

theorem step_local (hl : σ1.fr.length = σ2.fr.length) (hr : ∀ x ∈ p.reads, x.same σ1 σ2) {σ1' : Sig} (h : stepOp call p σ1 = some σ1') :
    ∃ σ2', stepOp call p σ2 = some σ2' ∧ ∀ x : Atom, (x.same σ1 σ2 ∨ x ∈ p.writes) → x.same σ1' σ2' := by
  have hgo : ∀ {σ1'}, goOp call p σ1 = some σ1' → ∃ σ2', goOp call p σ2 = some σ2' ∧ ∀ x : Atom, (x.same σ1 σ2 ∨ x ∈ p.writes) → x.same σ1' σ2' := fun h => go_local hl hr h
  have hskip : ∀ {σ1'}, some (p.dst.put (.tuple []) σ1) = some σ1' → ∃ σ2', some (p.dst.put (.tuple []) σ2) = some σ2' ∧ ∀ x : Atom, (x.same σ1 σ2 ∨ x ∈ p.writes) → x.same σ1' σ2' := fun {σ1'} h => by
    obtain rfl := Option.some.inj h
    refine ⟨_, rfl, fun x hx => ?_⟩
    by_cases hd : x ∈ p.dst.atoms
    · exact put_same hl (.inr hd)
    · refine put_same hl (.inl ?_)
      rcases hx with hx | hx
      · exact hx
      · simp only [AOper.writes, List.mem_append] at hx
        rcases hx with ((hx | hx) | hx) | hx
        · exact absurd hx hd
        · obtain ⟨y, hy, hx⟩ := List.mem_flatMap.1 hx
          exact hr x (by simp only [AOper.reads, List.mem_append, List.mem_flatMap]; exact .inl (.inl (.inl ⟨y, hy, spent_atoms y x hx⟩)))
        · cases hb : p.box with
          | none => rw [hb] at hx; simp at hx
          | some i =>
            rw [hb] at hx
            simp only at hx
            split at hx
            · have : x = .v i := by simpa using hx
              exact hr x (by simp [AOper.reads, hb, this])
            · simp at hx
        · split at hx
          · rename_i hk
            have : x = .st := by simpa using hx
            exact hr x (by simp [AOper.reads, useSt_of_setSt hk, this])
          · simp at hx
  unfold stepOp at h ⊢
  cases hg : p.guard with
  | none => simp only [hg] at h ⊢; exact hgo h
  | some xw =>
    obtain ⟨x, want⟩ := xw
    simp only [hg] at h ⊢
    rw [← read_same (q := x) (σ1 := σ1) fun y hy => hr y (guard_atoms hg y hy)]
    split at h
    · rename_i b hb
      split at h
      · rename_i hc
        rw [if_pos hc]
        exact hgo h
      · rename_i hc
        rw [if_neg hc]
        exact hskip h
    · exact hskip h
    · cases h

theorem swap_ok (hap : apartA p q = true) {σ1 σ2 : Sig} (h1 : stepOp call p σ = some σ1) (h2 : stepOp call q σ1 = some σ2) :
    ∃ σ1', stepOp call q σ = some σ1' ∧ stepOp call p σ1' = some σ2 := by
  simp only [apartA, Bool.and_eq_true, Bool.not_eq_true'] at hap
  obtain ⟨⟨a1, a2⟩, a3⟩ := hap
  have a1 := meets_false a1
  have a2 := meets_false a2
  have a3 := meets_false a3
  obtain ⟨f1, l1⟩ := step_frame h1
  obtain ⟨f2, l2⟩ := step_frame h2
  -- q first
  obtain ⟨σq, hq, sq⟩ := step_local (σ1 := σ1) (σ2 := σ) (p := q) l1 (fun x hx => f1 x fun hw => a1 x hw hx) h2
  obtain ⟨fq, lq⟩ := step_frame hq
  obtain ⟨σp, hp, sp⟩ := step_local (σ1 := σ) (σ2 := σq) (p := p) lq.symm (fun x hx => Atom.same_symm (fq x fun hw => a3 x hw hx)) h1
  obtain ⟨fp, lp⟩ := step_frame hp
  refine ⟨σq, hq, ?_⟩
  rw [hp]
  congr 1
  refine Sig.ext_atoms (by rw [lp, lq, l2, l1]) fun x => ?_
  by_cases hxp : x ∈ p.writes
  · -- p wrote it last, in both
    have e1 : x.same σ1 σp := sp x (.inr hxp)
    have e2 : x.same σ2 σ1 := f2 x (a2 x hxp)
    exact Atom.same_symm (Atom.same_trans e2 e1)
  · have e1 : x.same σp σq := fp x hxp
    have e2 : x.same σ2 σq := sq x (by
      by_cases hxq : x ∈ q.writes
      · exact .inr hxq
      · exact .inl (f1 x hxp))
    exact Atom.same_trans e1 (Atom.same_symm e2)

theorem runOps_append {ps qs : List AOper} : runOps call (ps ++ qs) σ = (runOps call ps σ).bind (runOps call qs) := by
  induction ps generalizing σ with
  | nil => rfl
  | cons p ps ih =>
    simp only [List.cons_append, runOps]
    cases stepOp call p σ with
    | none => rfl
    | some σ1 => exact ih

/-- an operation apart from all ahead of it may come first -/
theorem bubble {ps : List AOper} {rest : List AOper} (hap : ∀ r ∈ ps, apartA r p = true) (h : runOps call (ps ++ p :: rest) σ = some σ') :
    ∃ σ1, stepOp call p σ = some σ1 ∧ runOps call (ps ++ rest) σ1 = some σ' := by
  induction ps generalizing σ with
  | nil =>
    simp only [List.nil_append, runOps] at h
    cases hs : stepOp call p σ with
    | none => simp [hs] at h
    | some σ1 => simp only [hs] at h; exact ⟨σ1, rfl, h⟩
  | cons r ps ih =>
    simp only [List.cons_append, runOps] at h
    cases hs : stepOp call r σ with
    | none => simp [hs] at h
    | some σr =>
      simp only [hs] at h
      obtain ⟨σ2, h2, h3⟩ := ih (fun r hr => hap r (by simp [hr])) h
      obtain ⟨σ1, g1, g2⟩ := swap_ok (hap r (by simp)) hs h2
      refine ⟨σ1, g1, ?_⟩
      simp only [List.cons_append, runOps, g2]
      exact h3
end
end Go.Cb
