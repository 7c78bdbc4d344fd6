import Derived.Test.YtpalalebligmoaaGreatDoorP4
set_option maxRecDepth 20000
set_option linter.unusedSimpArgs false
set_option linter.unusedVariables false
namespace Go.Cb.CodeA
open Go Go.Cb
theorem at_mem {v : Val} {n : List Nat} {x : Val} (hx : v.at n = some x) : x ∈ v.vals := by
  cases v with | mk k m s ks ls =>
    rw [Val.at] at hx
    split at hx
    · split at hx
      · exact List.mem_of_getElem? hx
      · cases hx
    · cases hx
theorem at_six {v : Val} (h : v.kind = 6) (n : List Nat) : v.at n = match gI v.names n with | some i => v.vals[i]? | none => none := by
  cases v with | mk k m s ks ls =>
    have h : k = 6 := h
    subst h
    rfl
theorem fI_of {f : FD} (hf : f ∈ FI) : ∃ j, fI FI f.name = some j ∧ FI[j]? = some f :=
  FI_cases (Q := fun f => ∃ j, fI FI f.name = some j ∧ FI[j]? = some f) ⟨0, rfl, rfl⟩ ⟨1, rfl, rfl⟩ ⟨2, rfl, rfl⟩ f hf
theorem memF_of {F : List FD} {k : List Nat} (h : memF F k = true) : ∃ f ∈ F, f.name = k := by
  unfold memF at h
  rw [List.any_eq_true] at h
  obtain ⟨f, hf, h⟩ := h
  exact ⟨f, hf, (eqN_iff _ _).1 h⟩
theorem fI_mem : ∀ {F : List FD} {k : List Nat} {j : Nat}, fI F k = some j → memF F k = true
  | [], k, j, h => by cases h
  | f :: F, k, j, h => by
    rw [fI] at h
    unfold memF
    rw [List.any_cons]
    split at h
    · rename_i hx; rw [hx]; rfl
    · cases hg : fI F k with
      | none => rw [hg] at h; cases h
      | some j =>
        have := fI_mem hg
        unfold memF at this
        rw [this, Bool.or_true]
theorem not_mem_take {K : List (List Nat)} (h : K.Nodup) {i : Nat} {k : List Nat} (hk : K[i]? = some k) : k ∉ K.take i := by
  intro hm
  obtain ⟨j, hj⟩ := List.mem_iff_getElem?.1 hm
  have hlt := (List.getElem?_eq_some_iff.1 hj).1
  rw [List.length_take] at hlt
  rw [List.getElem?_take_of_lt (by omega)] at hj
  have hi := (List.getElem?_eq_some_iff.1 hk).1
  have e := (List.getElem?_inj (i := j) (j := i) (by omega) h).1 (hj.trans hk.symm)
  omega
theorem gI_nodup {K : List (List Nat)} (h : K.Nodup) {i : Nat} {k : List Nat} (hk : K[i]? = some k) : gI K k = some i := by
  have hm : k ∈ K := List.mem_of_getElem? hk
  have := gI_some hm
  cases hg : gI K k with
  | none => rw [hg] at this; cases this
  | some j =>
    have hj := gI_get hg
    have hlt := gI_lt K k j hg
    rw [(List.getElem?_inj hlt h).1 (hj.trans hk.symm)]
theorem fields_fit {v : Val} (hv : v.Ok) (hp : v.Plain) (hk : v.kind = 6) : eqI (fieldsF N0 FI false v).2.2 0 = fitF B0 FI v := by
  have hat : ∀ n x, v.at n = some x → x.Plain := fun n x h => hp.sub x (at_mem h)
  have hsx := at_six hk
  have hlen := hv.ev hk
  have hgo := goF_fit hv hp hat FI [] [] fun f hf => hf
  unfold fieldsF fitF
  rcases bool_tf (eqI (badL FI [] v.names) 0) with h0 | h0
  · rw [if_pos h0, hgo, Bool.eq_iff_iff, Bool.and_eq_true, fitL_iff _ _ _ hlen]
    obtain ⟨_, hnd, hmem⟩ := badL_zero.1 ((eqI_iff _ _).1 h0)
    unfold fitR
    rw [List.all_eq_true, List.all_eq_true]
    constructor
    · intro h
      refine ⟨fun i k x hki hxi => ?_, fun f hf => ?_⟩
      · obtain ⟨f, hf, rfl⟩ := memF_of (hmem k (List.mem_of_getElem? hki))
        obtain ⟨j, hj1, hj2⟩ := fI_of hf
        refine ⟨j, f, hj1, hj2, ?_, ?_⟩
        · rw [List.nil_append, gI_none (not_mem_take hnd hki)]
          rfl
        · have := h f hf
          unfold partF at this
          rw [hsx, gI_nodup hnd hki] at this
          dsimp only at this
          rw [hxi] at this
          exact this
      · have := h f hf
        unfold partF at this
        rw [hsx] at this
        cases hg : gI v.names f.name with
        | none =>
          rw [hg] at this
          dsimp only at this
          rw [this]
          rfl
        | some i => simp
    · rintro ⟨h1, h2⟩ f hf
      unfold partF
      rw [hsx]
      cases hg : gI v.names f.name with
      | none =>
        have := h2 f hf
        rw [hg] at this
        dsimp only
        simpa using this
      | some i =>
        have hlt := gI_lt _ _ _ hg
        have hx : v.vals[i]? = some v.vals[i] := List.getElem?_eq_getElem (by omega)
        dsimp only
        rw [hx]
        obtain ⟨j, f', a, b, _, d⟩ := h1 i f.name _ (gI_get hg) hx
        obtain ⟨j', a', b'⟩ := fI_of hf
        rw [a] at a'
        injection a' with a'
        subst a'
        rw [b] at b'
        injection b' with b'
        subst b'
        exact d
  · rw [if_neg (by rw [h0]; decide)]
    have hne := (eqI_ne _ _).1 h0
    have : fitL B0 FI [] v.names v.vals = false := by
      rcases bool_tf (fitL B0 FI [] v.names v.vals) with h | h
      · exfalso
        rw [fitL_iff _ _ _ hlen] at h
        refine hne (badL_zero.2 ⟨by simp, ?_, fun k hk => ?_⟩)
        · rw [List.Nodup, List.pairwise_iff_getElem]
          intro i j hi hj hij e
          obtain ⟨_, _, _, _, c, _⟩ := h j _ _ (List.getElem?_eq_getElem hj) (List.getElem?_eq_getElem (by omega))
          rw [List.nil_append] at c
          have hm : v.names[j] ∈ v.names.take j := by
            rw [← e]
            exact List.mem_iff_getElem?.2 ⟨i, by rw [List.getElem?_take_of_lt hij]; exact List.getElem?_eq_getElem hi⟩
          rw [gI_some hm] at c
          cases c
        · obtain ⟨i, hi⟩ := List.mem_iff_getElem?.1 hk
          have hlt := (List.getElem?_eq_some_iff.1 hi).1
          obtain ⟨j, f, a, _, _, _⟩ := h i k _ hi (List.getElem?_eq_getElem (by omega))
          exact fI_mem a
      · exact h
    rw [this, Bool.false_and]
    exact (eqI_ne _ _).2 hne
/-- a value without variables that fits a type becomes one of it, and no other does -/
theorem fits_pure (T : Ty) {v : Val} (hv : v.Ok) (hp : v.Plain) : Fit (valF false T v) (fitG BF T v) :=
  value_fit T (fun x hx hpx => named_fit hx fun _ hk => fields_fit hx hpx hk) v hv hp
end Go.Cb.CodeA
