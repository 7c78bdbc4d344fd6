/-
  THE ABSTRACT MACHINE, part 18: what passes the test is matched.
-/
import Derived.Test.YtkfbiiedabbgfaaDoorXAm17
set_option maxRecDepth 4000
namespace Go.Cb
open Classical

abbrev nc : CallT := fun _ _ _ => none

section
variable {c : Cx} {o : Oper} {p : AOper}

theorem op_mv (hk : p.kind = .mv) (h : ckMv c o p = true) : OpK c o p := by
  intro g w pr bx σ σ' a call next Q fx _ hS hgo hnext
  obtain ⟨r, b', st', hs, hσ⟩ := goOp_some hgo
  unfold ckMv at h
  have key : ∀ (x : Operand) (q : Opd), (o.op = .move x ∨ o.op = .assign x) → p.args = [q] → (p.box.isNone && opdOK c x q && dstOK c o.dst p.dst) = true → o.wp c.P a w next Q := by
    intro x q ho hq h
    simp only [Bool.and_eq_true, Option.isNone_iff_eq_none] at h
    obtain ⟨⟨h1, h2⟩, h3⟩ := h
    rw [hk, hq] at hs
    simp only [sem, semMv, List.map_cons, List.map_nil, Option.some.injEq, Prod.mk.injEq] at hs
    obtain ⟨rfl, rfl, rfl⟩ := hs
    rw [h1, hq] at hσ
    have e : σ' = p.dst.put (q.read σ) (q.spend σ) := by
      rw [hσ]
      have : (q.spend σ).st = σ.st := by cases q <;> rfl
      simp only [spendAll]
      rw [← this]
    subst e
    exact mv_ok fx hS ho h2 h3 hnext
  split at h
  · rename_i x q ho hq; exact key x q (.inl ho) hq h
  · rename_i x q ho hq; exact key x q (.inr ho) hq h
  · cases h
theorem op_pick (hk : p.kind = .pick) (h : ckPick c o p = true) : OpK c o p := by
  unfold ckPick at h; split at h
  · rename_i x y z ho
    exact pureK_of h fun hS hr hs => by rw [hk] at hs; exact sim_pick (call := nc) ho hr hs
  · cases h
theorem op_nilchk (hk : p.kind = .nilchk) (h : ckNilchk c o p = true) : OpK c o p := by
  unfold ckNilchk at h; split at h
  · rename_i x ho
    exact pureK_of h fun hS hr hs => by rw [hk] at hs; exact sim_nilchk (call := nc) ho hr hs
  · cases h
theorem zeroOK_spec {P : Program} {t : TypeId} {zero : List AV} (h : zeroOK P t zero = true) : ∃ z, (P.info? t).bind (·.zero) = some z ∧ constsOK z.cells.toList zero = true := by
  unfold zeroOK at h; split at h
  · rename_i z hz; exact ⟨z, hz, h⟩
  · cases h
theorem zero_row {zero : List AV} {z : Value} (h : constsOK z.cells.toList zero = true) (g : Gh) (w : World) : RowOK g w zero z.cells.toList := by
  obtain ⟨h1, h2, h3⟩ := constsOK_rel h g w
  exact ⟨h1, h2, h3⟩
theorem op_alloc {zero : List AV} (hk : p.kind = .alloc zero) (h : ckAlloc c o p zero = true) : OpK c o p := by
  intro g w pr bx σ σ' a call next Q fx _ hS hgo hnext
  obtain ⟨r, b', st', hs, hσ⟩ := goOp_some hgo
  unfold ckAlloc at h; split at h
  · rename_i t s i ho hd hb hpd ha
    simp only [Bool.and_eq_true, beq_iff_eq] at h
    obtain ⟨⟨h1, h2⟩, h3⟩ := h
    obtain ⟨z, hz, hzz⟩ := zeroOK_spec h3
    rw [hk, ha] at hs
    simp only [sem, semAlloc, List.map_nil, boxOf, hb] at hs
    cases hu : σ.fr.getD i .undef <;> rw [hu] at hs <;> first | cases hs; done | skip
    simp only [Option.some.injEq, Prod.mk.injEq] at hs
    obtain ⟨rfl, rfl, rfl⟩ := hs
    rw [hb, ha, hpd] at hσ
    simp only [spendAll, Dst.put] at hσ
    subst hσ
    exact nbox_ok fx hS hd h1 (by simpa using h2) hu (run_alloc ho hz) (zero_row hzz g w) hnext
  · cases h
theorem spend_undef {q : Opd} {σ : Sig} {i : Nat} (hu : σ.fr.getD i .undef = .undef) : (q.spend σ).fr.getD i .undef = .undef := by
  cases q <;> simp only [Opd.spend] <;> try exact hu
  rename_i j
  rw [List.getD_eq_getElem?_getD, List.getElem?_set] 
  by_cases e : j = i
  · subst e
    rw [if_pos rfl, hu]
    split <;> rfl
  · rw [if_neg e, ← List.getD_eq_getElem?_getD]; exact hu
theorem op_boxV (hk : p.kind = .boxV) (h : ckBoxV c o p = true) : OpK c o p := by
  intro g w pr bx σ σ' a call next Q fx _ hS hgo hnext
  obtain ⟨r, b', st', hs, hσ⟩ := goOp_some hgo
  unfold ckBoxV at h; split at h
  · rename_i t x s i q ho hd hb hpd ha
    simp only [Bool.and_eq_true, beq_iff_eq] at h
    obtain ⟨⟨h1, h2⟩, h3⟩ := h
    rw [hk, ha] at hs
    simp only [sem, semBoxV, List.map_cons, List.map_nil, boxOf, hb] at hs
    cases hu : σ.fr.getD i .undef <;> rw [hu] at hs <;> first | cases hs; done | skip
    dsimp only at hs
    split at hs
    · rename_i hpl
      simp only [Option.some.injEq, Prod.mk.injEq] at hs
      obtain ⟨rfl, rfl, rfl⟩ := hs
      rw [hb, ha, hpd] at hσ
      simp only [spendAll, Dst.put] at hσ
      have est : (q.spend σ).st = σ.st := by cases q <;> rfl
      rw [← est] at hσ
      obtain ⟨pr1, hS1, hA, _⟩ := arg_spend hS h3 (.tmp 0)
      subst hσ
      exact nbox_ok fx hS1 hd h1 (by simpa using h2) (spend_undef hu) (run_box ho) (cells_okW hA hpl) hnext
    · cases hs
  · cases h
theorem op_allocO {zero : List AV} (hk : p.kind = .allocO zero) (h : ckAllocO c o p zero = true) : OpK c o p := by
  intro g w pr bx σ σ' a call next Q fx _ hS hgo hnext
  obtain ⟨r, b', st', hs, hσ⟩ := goOp_some hgo
  unfold ckAllocO at h; split at h
  · rename_i t ho ha
    simp only [Bool.and_eq_true, Option.isNone_iff_eq_none] at h
    obtain ⟨⟨h1, h2⟩, h3⟩ := h
    obtain ⟨z, hz, hzz⟩ := zeroOK_spec h2
    rw [hk, ha] at hs
    simp only [sem, semAllocO, List.map_nil, Option.some.injEq, Prod.mk.injEq] at hs
    obtain ⟨rfl, rfl, rfl⟩ := hs
    rw [h1, ha] at hσ
    subst hσ
    exact nobj_ok fx hS h3 (run_alloc ho hz) (by intro c t z e; cases e; rfl) (newobj_cells hS (zero_row hzz g w)) (.inl ⟨rfl, rfl⟩) hnext
  · cases h
theorem op_boxO (hk : p.kind = .boxO) (h : ckBoxO c o p = true) : OpK c o p := by
  intro g w pr bx σ σ' a call next Q fx _ hS hgo hnext
  obtain ⟨r, b', st', hs, hσ⟩ := goOp_some hgo
  unfold ckBoxO at h; split at h
  · rename_i t x q ho ha
    simp only [Bool.and_eq_true, Option.isNone_iff_eq_none] at h
    obtain ⟨⟨h1, h2⟩, h3⟩ := h
    rw [hk, ha] at hs
    simp only [sem, semBoxO, List.map_cons, List.map_nil] at hs
    split at hs
    · rename_i hpl
      simp only [Option.some.injEq, Prod.mk.injEq] at hs
      obtain ⟨rfl, rfl, rfl⟩ := hs
      rw [h1, ha] at hσ
      simp only [spendAll] at hσ
      have est : (q.spend σ).st = σ.st := by cases q <;> rfl
      rw [← est] at hσ
      obtain ⟨pr1, hS1, hA, _⟩ := arg_spend hS h2 (.tmp 0)
      subst hσ
      exact nobj_ok fx hS1 h3 (run_box ho) (by intro c t z e; cases e; rfl) (newobj_cells hS1 (cells_okW hA hpl)) (.inl ⟨rfl, rfl⟩) hnext
    · cases hs
  · cases h
theorem op_mkM (hk : p.kind = .mkM) (h : ckMkM c o p = true) : OpK c o p := by
  intro g w pr bx σ σ' a call next Q fx _ hS hgo hnext
  obtain ⟨r, b', st', hs, hσ⟩ := goOp_some hgo
  unfold ckMkM at h; split at h
  · rename_i t ho ha
    simp only [Bool.and_eq_true, Option.isNone_iff_eq_none] at h
    obtain ⟨h1, h3⟩ := h
    rw [hk, ha] at hs
    simp only [sem, semMkM, List.map_nil, Option.some.injEq, Prod.mk.injEq] at hs
    obtain ⟨rfl, rfl, rfl⟩ := hs
    rw [h1, ha] at hσ
    subst hσ
    refine nobj_ok fx hS h3 (O := .map #[] 0) (by simp [execOp, ho, Instr.makeMap]) (by intro c t z e; cases e) (newobj_map hS) (.inr ⟨rfl, rfl⟩) hnext
  · cases h
end
end Go.Cb
