/-
  THE ABSTRACT MACHINE, part 24: regions.
-/
import Derived.Test.YtkfbiiedabbgfaaDoorXAm23
import Derived.Orders
set_option maxRecDepth 4000
set_option linter.unusedSimpArgs false
namespace Go.Cb
open Classical

def guardOK (c : Cx) (ops : Array Oper) (o : Oper) (p : AOper) : Bool := match o.guard, p.guard with
  | none, none => true
  | some (j, w), some (x, w') => (w == w') && (match (ops[j]?).bind (·.dst) with | some d => opdN c (.tmp d) x && decide (d < c.nt) | none => false) && dstOK c o.dst p.dst
  | _, _ => false

def opsOK (c : Cx) (ops : Array Oper) : List Oper → List AOper → Bool
  | [], [] => true
  | o :: os, p :: ps => opOK c o p && guardOK c ops o p && opsOK c ops os ps
  | _, _ => false

def pairsOK (ops : Array Oper) : List (Nat × List Atom × List Atom) → Nat → List AOper → Bool
  | _, _, [] => true
  | es, j, p :: ps =>
    (befores ops j).all (fun i => Nat.blt i j) &&
    es.all (fun e => (!meets e.2.2 p.reads && !meets e.2.2 p.writes && !meets p.writes e.2.1) || (closure ops 4 (befores ops j)).any (Nat.beq e.1)) &&
    pairsOK ops ((j, p.reads, p.writes) :: es) (j + 1) ps

def regOK (c : Cx) (ops : Array Oper) (draw : Bool) (kill : List Nat) (ps : List AOper) : Bool :=
  opsOK c ops ops.toList ps && (!draw || pairsOK ops [] 0 ps)

section
variable {c : Cx} {g : Gh} {w : World} {pr : Nat → Option Pl} {bx : Nat → Nat} {σ σ' : Sig} {a : Act} {call : CallT} {ops : Array Oper} {next : Act → World → Prop} {Q : Exit → Act → World → Prop}

theorem step_ok (fx : Fx c) (hc : CallOK c.P c.gt call) (h : S c g w pr bx σ a) {i : Nat} {o : Oper} {p : AOper} (hi : ops[i]? = some o) (hop : opOK c o p = true) (hg : guardOK c ops o p = true)
    (hs : stepOp call p σ = some σ') (hnext : Post c g w a σ' next) : wpOp c.P ops Q i next a w := by
  unfold wpOp
  simp only [hi]
  unfold stepOp at hs
  unfold guardOK at hg
  split at hg
  · rename_i h1 h2
    rw [h2] at hs
    have hw : Region.wanted o (yielded ops a.tmps) = true := by simp [Region.wanted, h1]
    rw [if_pos hw]
    exact .inl (op_ok hop fx hc h hs hnext)
  · rename_i j want x want' h1 h2
    simp only [Bool.and_eq_true, beq_iff_eq] at hg
    obtain ⟨⟨rfl, hg⟩, hd⟩ := hg
    split at hg
    · rename_i d hdst
      simp only [Bool.and_eq_true, decide_eq_true_eq] at hg
      obtain ⟨hx, hdn⟩ := hg
      have hA := read_ok h hx
      have hlt : d < a.tmps.size := by rw [h.fr.size]; exact hdn
      have hy : ∀ v, a.eval (.tmp d) = v → yielded ops a.tmps j = (match v with | .bool b => some b | _ => none) := fun v hv => by
        have e : a.tmps[d]? = some v := by
          rw [← hv]; simp [Act.eval, hlt]
        simp only [yielded, hdst, Option.bind_some, e]
        cases v <;> rfl
      rw [h2] at hs
      simp only at hs
      have skip : Region.wanted o (yielded ops a.tmps) = false → some (p.dst.put (.tuple []) σ) = some σ' → (if Region.wanted o (yielded ops a.tmps) = true then o.wp c.P a w next Q ∨ (o.asks c.P a w ∧ LetsOut Q) else next (a.put o.dst undef) w) := fun hw hs => by
        rw [if_neg (by rw [hw]; simp)]
        obtain rfl := Option.some.inj hs
        refine hnext _ _ g pr bx (defers_put _ _ _) (put_ok fx h hd (mine := No) (r := .tuple []) (v := undef) ?_ fun _ x => x.elim) (Tr.refl _ _ _)
        exact (show ValOK g w No (.tuple []) undef from ValOK.mk' (by simp only [Rel]; exact ⟨#[], rfl, by simp [RelL]⟩) (by simp) (by simp))
      split at hs
      · rename_i b hb
        rw [hb] at hA
        have hv := ValOK.rel hA
        simp only [Rel] at hv
        have hyv := hy _ hv
        split at hs
        · rename_i hbw
          have hw : Region.wanted o (yielded ops a.tmps) = true := by
            simp only [Region.wanted, h1, hyv]
            simpa using hbw
          rw [if_pos hw]
          exact .inl (op_ok hop fx hc h hs hnext)
        · rename_i hbw
          exact skip (by
            simp only [Region.wanted, h1, hyv]
            simpa using hbw) hs
      · rename_i hb
        rw [hb] at hA
        have hv := ValOK.rel hA
        simp only [Rel] at hv
        obtain ⟨arr, hv, hr⟩ := hv
        have hyv := hy _ hv
        exact skip (by simp [Region.wanted, h1, hyv]) hs
      · cases hs
    · cases hg
  · cases hg

theorem opsOK_get {os : List Oper} : ∀ {ps : List AOper}, opsOK c ops os ps = true → os.length = ps.length ∧ ∀ (i : Nat) (p : AOper), ps[i]? = some p → ∃ o, os[i]? = some o ∧ opOK c o p = true ∧ guardOK c ops o p = true := by
  induction os with
  | nil =>
    intro ps h
    cases ps with
    | nil => exact ⟨rfl, fun i p h => by simp at h⟩
    | cons p ps => simp [opsOK] at h
  | cons o os ih =>
    intro ps h
    cases ps with
    | nil => simp [opsOK] at h
    | cons p ps =>
      rw [opsOK, Bool.and_eq_true, Bool.and_eq_true] at h
      obtain ⟨⟨h1, h2⟩, h3⟩ := h
      obtain ⟨l, hg⟩ := ih h3
      refine ⟨by rw [List.length_cons, List.length_cons, l], fun i q hi => ?_⟩
      cases i with
      | zero =>
        rw [List.getElem?_cons_zero] at hi
        obtain rfl := Option.some.inj hi
        exact ⟨o, rfl, h1, h2⟩
      | succ i =>
        rw [List.getElem?_cons_succ] at hi ⊢
        exact hg i q hi

theorem Post.trans {σ'' : Sig} {g' : Gh} {w' : World} {a' : Act} (h : Post c g w a σ'' next) (hd : a'.defers = a.defers) (ht : Tr c.A g w g' w') : Post c g' w' a' σ'' next :=
  fun a2 w2 g2 pr2 bx2 d2 s2 t2 => h a2 w2 g2 pr2 bx2 (d2.trans hd) s2 (ht.trans t2)

/-- in the order of the text -/
theorem ops_text (fx : Fx c) (hc : CallOK c.P c.gt call) {ps : List AOper} (hok : opsOK c ops ops.toList ps = true) : ∀ (n k : Nat) (g : Gh) (w : World) (pr : Nat → Option Pl) (bx : Nat → Nat) (σ : Sig) (a : Act), k + n = ps.length →
    S c g w pr bx σ a → runOps call (ps.drop k) σ = some σ' → Post c g w a σ' (Q .normal) → wpOps c.P ops Q (List.range' k n) a w
  | 0, k, g, w, pr, bx, σ, a, hk, h, hr, hnext => by
    rw [List.drop_of_length_le (by omega)] at hr
    simp only [runOps, Option.some.injEq] at hr
    subst hr
    exact hnext a w g pr bx rfl h (Tr.refl _ _ _)
  | n + 1, k, g, w, pr, bx, σ, a, hk, h, hr, hnext => by
    obtain ⟨hl, hget⟩ := opsOK_get hok
    rw [List.drop_eq_getElem_cons (by omega)] at hr
    simp only [runOps] at hr
    obtain ⟨o, ho, h1, h2⟩ := hget k _ (List.getElem?_eq_getElem (show k < ps.length by omega))
    cases hs : stepOp call (ps[k]'(by omega)) σ with
    | none => simp [hs] at hr
    | some σ1 =>
      simp only [hs] at hr
      rw [List.range'_succ, wpOps_cons]
      refine step_ok fx hc h (by simpa using ho) h1 h2 hs fun a1 w1 g1 pr1 bx1 hd1 hS1 ht1 => ?_
      exact ops_text fx hc hok n (k + 1) g1 w1 pr1 bx1 σ1 a1 (by omega) hS1 hr (hnext.trans hd1 ht1)
end
end Go.Cb
