import Derived.Test.YtpalalebligmoaaGreatDoorS7
set_option maxRecDepth 20000
set_option linter.unusedSimpArgs false
set_option linter.unusedVariables false
namespace Go.Cb.CodeA
open Go Go.Cb
/-! an object's fields in another order -/
theorem gI_get : ∀ {ks : List (List Nat)} {n : List Nat} {i : Nat}, gI ks n = some i → ks[i]? = some n
  | [], n, i, h => by cases h
  | x :: xs, n, i, h => by
    rw [gI] at h
    split at h
    · rename_i hx
      injection h with h; subst h
      rw [(eqN_iff _ _).1 hx]; rfl
    · cases hg : gI xs n with
      | none => rw [hg] at h; cases h
      | some j =>
        rw [hg] at h
        injection h with h
        subst h
        simpa using gI_get hg
theorem gI_none {ks : List (List Nat)} {n : List Nat} (h : n ∉ ks) : gI ks n = none := by
  cases hg : gI ks n with
  | none => rfl
  | some i => exact absurd (List.mem_of_getElem? (gI_get hg)) h
theorem gI_some {ks : List (List Nat)} {n : List Nat} (h : n ∈ ks) : (gI ks n).isSome = true := by
  induction ks with
  | nil => cases h
  | cons x xs ih =>
    rw [gI]
    split
    · rfl
    · rename_i hx
      rcases List.mem_cons.1 h with rfl | h
      · exact absurd (eqN_refl _) hx
      · have := ih h
        cases hg : gI xs n with
        | none => rw [hg] at this; cases this
        | some i => rfl
theorem gI_iff {ks : List (List Nat)} {n : List Nat} : (gI ks n).isSome = true ↔ n ∈ ks := ⟨fun h => by
  cases hg : gI ks n with
  | none => rw [hg] at h; cases h
  | some i => exact List.mem_of_getElem? (gI_get hg), gI_some⟩
theorem badL_zero {F : List FD} : ∀ {ks seen : List (List Nat)}, badL F seen ks = 0 ↔ (∀ k ∈ ks, k ∉ seen) ∧ ks.Nodup ∧ ∀ k ∈ ks, memF F k = true
  | [], seen => by simp [badL]
  | k :: ks, seen => by
    rw [badL]
    by_cases h1 : k ∈ seen
    · rw [if_pos (gI_some h1)]
      refine ⟨fun h => absurd h (by decide), fun h => absurd h1 (h.1 k (by simp))⟩
    rw [if_neg (fun h => h1 (gI_iff.1 h))]
    by_cases h2 : memF F k = true
    · rw [if_pos h2, badL_zero (ks := ks) (seen := seen ++ [k])]
      constructor
      · rintro ⟨a, b, c⟩
        refine ⟨fun j hj => ?_, List.nodup_cons.2 ⟨fun hk => a k hk (by simp), b⟩, fun j hj => ?_⟩
        · rcases List.mem_cons.1 hj with rfl | hj
          · exact h1
          · exact fun h => a j hj (List.mem_append_left _ h)
        · rcases List.mem_cons.1 hj with rfl | hj
          · exact h2
          · exact c j hj
      · rintro ⟨a, b, c⟩
        obtain ⟨b1, b2⟩ := List.nodup_cons.1 b
        refine ⟨fun j hj h => ?_, b2, fun j hj => c j (List.mem_cons_of_mem _ hj)⟩
        rcases List.mem_append.1 h with h | h
        · exact a j (List.mem_cons_of_mem _ hj) h
        · rw [List.mem_singleton] at h
          exact b1 (h ▸ hj)
    · rw [if_neg h2]
      exact ⟨fun h => absurd h (by decide), fun h => absurd (h.2.2 k (by simp)) h2⟩
end Go.Cb.CodeA
