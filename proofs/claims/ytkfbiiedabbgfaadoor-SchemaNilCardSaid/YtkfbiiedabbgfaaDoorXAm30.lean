/-
  THE ABSTRACT MACHINE, part 30: from an abstract answer to the model's call.
-/
import Derived.Test.YtkfbiiedabbgfaaDoorXAm29
set_option maxRecDepth 4000
namespace Go.Cb
open Classical

/-- before the call: nothing is of the store, and all that is there stays -/
def gh0 (W : World) : Gh := { n := 0, m := fun _ => 0, cl := fun b _ => b < W.heap.size, sr := fun _ => none }

theorem srel0 (W : World) : SRel (gh0 W) W [] := ⟨rfl, fun o ob h => by simp at h, fun b p h => (by cases h), fun b f h => h⟩

/-- what a call leaves of the old world -/
structure Kept (W W' : World) : Prop where
  kept : W.keptBut W' (fun _ => False)
  fz : ∀ a, W'.frozen? a = W.frozen? a
  size : W.heap.size ≤ W'.heap.size
  old : ∀ b, b < W.heap.size → W'.heap[b]? = W.heap[b]?

theorem answer {P : Program} {gt : List (Nat × List AV)} {tbl : Nat → Option AFn} (hP : ProgOK P gt tbl) {n f : Nat} {args : List AV} {b : Bool} {st' : St} (h : callF tbl n f args [] = some (.bool b, st')) (hw : ∀ x ∈ args, x.weak = x)
    {W : World} {vs : List Value} (hg : Globs gt (gh0 W) W) (hr : RelL (gh0 W) W args vs) : Calls P f vs.toArray W (fun e W' => e = .returned (.bool b) ∧ Kept W W') := by
  refine ((callF_ok hP n f args [] _ _ h hw).2 (gh0 W) W vs (srel0 W) hg hr).mono fun e W' he => ?_
  obtain ⟨v, g', rfl, _, ht, hv⟩ := he
  have hv := hv.rel
  simp only [Rel] at hv
  subst hv
  have hold : ∀ b, b < W.heap.size → W'.heap[b]? = W.heap[b]? := fun b hb => (ht.keep b hb rfl fun x => x).1.1
  refine ⟨rfl, ⟨ht.env.os, ht.env.out, fun i hi => ?_⟩, ht.env.fz, ht.size, hold⟩
  rw [hold i hi]
  cases hq : W.heap[i]? with
  | none => simp
  | some o => cases o <;> simp
end Go.Cb
