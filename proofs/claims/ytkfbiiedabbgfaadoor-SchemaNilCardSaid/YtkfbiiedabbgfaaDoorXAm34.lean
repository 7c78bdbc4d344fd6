/-
  THE ABSTRACT MACHINE, part 34: rules for loops within blocks, and for a body's end.
-/
import Derived.Test.YtkfbiiedabbgfaaDoorXAm33
set_option maxRecDepth 4000
set_option linter.unusedVariables false
namespace Go.Cb
open Classical
section
variable {tbl : Nat → Option AFn}

theorem WC.seqW {c : Nat → Option Out} {g : Nat → List AV → St → Option Out} {Q : Out → Prop} (h : WC c (fun o => WC (fun n => Go.Cb.seqK (some o) (g n)) Q)) : WC (fun n => Go.Cb.seqK (c n) (g n)) Q := WC.seqK h fun _ ho => ho
theorem WC.loopBS {x : ACode} {id : Nat} {g : Nat → List AV → St → Option Out} {Q : Out → Prop} (I : Nat → List AV → St → Prop) {m : Nat} {fr : List AV} {st : St} (h0 : I m fr st)
    (hI : ∀ m fr st, I m fr st → WC (fun n => exec (callF tbl n) n x fr st) (fun o => (∃ m' fr' st', o = (.normal, fr', st') ∧ m' < m ∧ I m' fr' st') ∨ (o.1 ≠ .normal ∧ WC (fun n => Go.Cb.seqK (some (blkOut id o)) (g n)) Q))) :
    WC (fun n => Go.Cb.seqK (Go.Cb.blkK id (exec (callF tbl n) n (.loop x) fr st)) (g n)) Q := WC.seqW (WC.blkK (WC.loop I h0 hI))
theorem WC.loopB {x : ACode} {id : Nat} {Q : Out → Prop} (I : Nat → List AV → St → Prop) {m : Nat} {fr : List AV} {st : St} (h0 : I m fr st)
    (hI : ∀ m fr st, I m fr st → WC (fun n => exec (callF tbl n) n x fr st) (fun o => (∃ m' fr' st', o = (.normal, fr', st') ∧ m' < m ∧ I m' fr' st') ∨ (o.1 ≠ .normal ∧ Q (blkOut id o)))) :
    WC (fun n => Go.Cb.blkK id (exec (callF tbl n) n (.loop x) fr st)) Q := WC.blkK (WC.loop I h0 hI)
theorem WC.next {I : Nat → List AV → St → Prop} {m m' : Nat} {fr' : List AV} {st' : St} {R : Out → Prop} (hm : m' < m) (hi : I m' fr' st') :
    WC (fun _ => some (Ex.normal, fr', st')) (fun o => (∃ m' fr' st', o = (.normal, fr', st') ∧ m' < m ∧ I m' fr' st') ∨ (o.1 ≠ .normal ∧ R o)) := WC.ret (Or.inl ⟨m', fr', st', rfl, hm, hi⟩)
theorem WC.leave {I : Nat → List AV → St → Prop} {m id : Nat} {fr' : List AV} {st' : St} {R : Out → Prop} (h : R (.exit id, fr', st')) :
    WC (fun _ => some (Ex.exit id, fr', st')) (fun o => (∃ m' fr' st', o = (.normal, fr', st') ∧ m' < m ∧ I m' fr' st') ∨ (o.1 ≠ .normal ∧ R o)) := WC.ret (Or.inr ⟨fun h => by simp at h, h⟩)
theorem WC.leaveR {I : Nat → List AV → St → Prop} {m : Nat} {fr' : List AV} {st' : St} {R : Out → Prop} (h : R (.ret, fr', st')) :
    WC (fun _ => some (Ex.ret, fr', st')) (fun o => (∃ m' fr' st', o = (.normal, fr', st') ∧ m' < m ∧ I m' fr' st') ∨ (o.1 ≠ .normal ∧ R o)) := WC.ret (Or.inr ⟨fun h => by simp at h, h⟩)

/-- a function's answer, told at its body's end -/
theorem EvQ.body {f : Nat} {fn : AFn} {as : List AV} {st : St} {Q : AV → St → Prop} (htb : tbl f = some fn) (he : fn.ext = none) (hl : as.length = fn.np)
    (h : WC (fun n => exec (callF tbl n) n fn.code (as ++ List.replicate (fn.nv - fn.np) .undef) st) (fun o => ∃ r st', Go.Cb.finK fn.results (some o) = some (r, st') ∧ Q r st')) : EvQ tbl f as st Q :=
  EvQ.of_body htb he hl (WC.finK h fun o ⟨r, st', hr, hq⟩ => ⟨0, (r, st'), fun _ _ => hr, hq⟩)
end
end Go.Cb
