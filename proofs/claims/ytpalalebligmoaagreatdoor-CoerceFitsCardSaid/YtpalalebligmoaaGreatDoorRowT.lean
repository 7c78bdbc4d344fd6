/- What functions of the abstract machine answer. No conditions but those that each theorem names. -/
import Derived.Test.YtpalalebligmoaaGreatDoorRowW
import Derived.Test.YtpalalebligmoaaGreatDoorT0
namespace Go.Proofs.YtpalalebligmoaaGreatDoor
open Go.ChangeShapes Go.WideShapes Go.ChangeAt Go.WideMaps Go.WideElems Go.RowKit Go.ChangeMaps Go.Cb Go.Cb.CodeA
set_option maxRecDepth 100000
set_option linter.unusedVariables false
theorem trs_of : ∀ {ls : List (List AV)}, (∀ r ∈ ls, ∃ t : Tr, t.Fin ∧ r = t.row) → ∃ ts : List Tr, ls = ts.map Tr.row ∧ ∀ t ∈ ts, t.Fin
  | [], _ => ⟨[], rfl, by simp⟩
  | k :: ks, h => by
    obtain ⟨t, ht, rfl⟩ := h k (by simp)
    obtain ⟨ts, rfl, hs⟩ := trs_of (ls := ks) fun r hr => h r (by simp [hr])
    refine ⟨t :: ts, rfl, fun u hu => ?_⟩
    rcases List.mem_cons.1 hu with rfl | hu
    · exact ht
    · exact hs u hu
theorem c24 : Tryz.prog.cellsOf 24 = 3 := by kernel_rfl
theorem c22 : Tryz.prog.cellsOf 22 = 1 := by kernel_rfl
theorem c4 : Tryz.prog.cellsOf 4 = 1 := by kernel_rfl
section
variable {H : Type} {enc : TypeId × Value → H} {w : World} {base : Nat} {spare : Nat → Bool} {held : Bool}
theorem open_tref : ∀ (n : Nat) (t : TypeId) (cs : List Value) (x : DataW H × List MemPlace), t = 24 → DataW.trod enc Tryz.prog w base spare held n t cs = some x → ∃ r, (∃ t : Tr, t.Fin ∧ r = t.row) ∧ RowRel (gh0 w) w r cs := by
  intro n
  induction n using Nat.strongRecOn with
  | ind n ih =>
    rintro t cs x rfl h
    obtain ⟨xs, m, rfl, _, hlen, hxs, hf⟩ := DataW.trod_struct Tryz.underlying24 h
    rw [c24] at hlen
    match cs, hlen with
    | [q0, q1, q2], _ =>
      have f0 : DataW.trod enc Tryz.prog w base spare held m 9 ([q0].take 1) = xs[0]? := by
        have := hf 0 { name := "Name", type := 9, offset := 0, embedded := false, tag := "", pkgPath := "", byteOffset := 0 } rfl
        dsimp only at this
        rw [c9] at this
        exact this
      have f1 : DataW.trod enc Tryz.prog w base spare held m 22 ([q1].take 1) = xs[1]? := by
        have := hf 1 { name := "Of", type := 22, offset := 1, embedded := false, tag := "", pkgPath := "", byteOffset := 16 } rfl
        dsimp only at this
        rw [c22] at this
        exact this
      have f2 : DataW.trod enc Tryz.prog w base spare held m 4 ([q2].take 1) = xs[2]? := by
        have := hf 2 { name := "Bang", type := 4, offset := 2, embedded := false, tag := "", pkgPath := "", byteOffset := 40 } rfl
        dsimp only at this
        rw [c4] at this
        exact this
      have hsz : xs.length = 3 := hxs
      rw [List.getElem?_eq_getElem (by omega)] at f0 f1 f2
      obtain ⟨s, e0, _, _⟩ := DataW.trod_string Tryz.underlying9 f0
      obtain ⟨v1, ls, e1, o1, l1, h1, r1⟩ := open_rows (R := fun r => ∃ t : Tr, t.Fin ∧ r = t.row) Tryz.underlying22 (by rw [c24]; decide) (fun m' cs' y hm hy => ih m' (by omega) 24 cs' y rfl hy) f1
      obtain ⟨b, e2, _⟩ := DataW.trod_bool Tryz.underlying4 f2
      have e0 := (List.cons.inj (show [q0] = [_] from e0)).1
      have e1 := (List.cons.inj (show [q1] = [_] from e1)).1
      have e2 := (List.cons.inj (show [q2] = [_] from e2)).1
      subst e0; subst e1; subst e2
      obtain ⟨ts, rfl, hts⟩ := trs_of h1
      refine ⟨_, ⟨.mk (s.data.toList.map UInt8.toNat) ts b, .mk _ _ _ (by simpa using l1) hts, (Tr.row_eq _ _ _).symm⟩, ?_, ?_⟩
      · simp only [RelL]
        exact ⟨_, _, rfl, by simp only [Rel]; exact ⟨s, rfl, rfl⟩, _, _, rfl, r1, _, _, rfl, rfl, rfl⟩
      · intro c hc
        simp only [List.mem_cons, List.not_mem_nil, or_false] at hc
        rcases hc with rfl | rfl | rfl <;> first | rfl | assumption
end
end Go.Proofs.YtpalalebligmoaaGreatDoor
