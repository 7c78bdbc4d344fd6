import Derived.Test.YthnliekianmljaaGreatDoorS1
set_option maxRecDepth 20000
set_option linter.unusedSimpArgs false
set_option linter.unusedVariables false
namespace Go.Cb.CodeA
open Go Go.Cb

/-! how much is read: as many selections as tokens, at most -/
def AdvP {α : Type} (N : Nat) (p : Nat → Option (α × Nat)) (μ : α → Nat) : Prop := ∀ i x j, i ≤ N → p i = some (x, j) → μ x + i ≤ j ∧ j ≤ N
theorem eat_lt {L : List Tok} {i : Nat} {s : List Nat} (h : eatB L i s = true) : i < L.length := by
 cases hL : L[i]? with
 | some t => exact (List.getElem?_eq_some_iff.1 hL).1
 | none => rw [eatB, signB, wordB, hL] at h; cases h
theorem name_adv (L : List Tok) : AdvP L.length (nameP L) (fun _ => 1) := by
 intro i x j hi h
 unfold nameP at h
 cases hL : L[i]? with
 | none => rw [hL] at h; cases h
 | some t =>
  rw [hL] at h
  dsimp only at h
  split at h
  · cases h
    have := (List.getElem?_eq_some_iff.1 hL).1
    ((try dsimp only at *); omega)
  · cases h
theorem must_adv {L : List Tok} {s : List Nat} {i j : Nat} (h : mustP L s i = some j) : j = i + 1 ∧ j ≤ L.length := by
 unfold mustP at h
 split at h
 · rename_i he
   have := eat_lt he
   cases h
   ((try dsimp only at *); omega)
 · cases h
theorem loop_adv {α : Type} {N : Nat} {step : Nat → α → Option (Bool × Nat × α)} {μ : α → Nat} (hs : ∀ i a b j a', i ≤ N → step i a = some (b, j, a') → μ a' + i ≤ μ a + j ∧ i ≤ j ∧ j ≤ N) : ∀ (f i : Nat) (a x : α) (j : Nat), i ≤ N → loopP step f i a = some (x, j) → μ x + i ≤ μ a + j ∧ i ≤ j ∧ j ≤ N
 | 0, i, a, x, j, _, h => by cases h
 | f + 1, i, a, x, j, hi, h => by
  rw [loopP] at h
  cases hb : step i a with
  | none => rw [hb] at h; cases h
  | some r =>
   obtain ⟨t, j', b⟩ := r
   rw [hb] at h
   cases t with
   | true =>
    cases h
    exact hs i a true j x hi hb
   | false =>
    obtain ⟨h1, h2, h3⟩ := hs i a false j' b hi hb
    have := loop_adv hs f j' b x j h3 h
    ((try dsimp only at *); omega)
theorem type_adv (L : List Tok) : ∀ f, AdvP L.length (typeP L f) (fun _ => 0)
 | 0 => by intro i x j _ h; rw [typeP] at h; cases h
 | f + 1 => by
  intro i x j hi h
  rw [typeP] at h
  split at h
  · rename_i he
    have := eat_lt he
    split at h
    · cases h
    · rename_i u i2 h2
      have a2 := type_adv L f _ _ _ (by ((try dsimp only at *); omega)) h2
      split at h
      · cases h
      · rename_i i3 h3
        have a3 := must_adv h3
        split at h
        · rename_i he2; have := eat_lt he2; cases h; ((try dsimp only at *); omega)
        · cases h; ((try dsimp only at *); omega)
  · split at h
    · cases h
    · rename_i u i2 h2
      have a2 := name_adv L _ _ _ hi h2
      split at h
      · rename_i he2; have := eat_lt he2; cases h; ((try dsimp only at *); omega)
      · cases h; ((try dsimp only at *); omega)
theorem value_adv (L : List Tok) (fx : Bool) : ∀ f, AdvP L.length (valueP L fx f) (fun _ => 0)
 | 0 => by intro i x j _ h; rw [valueP] at h; cases h
 | f + 1 => by
  have ih := value_adv L fx f
  intro i x j hi h
  rw [valueP, value1P] at h
  cases hL : L[i]? with
  | none => rw [hL] at h; cases h
  | some t =>
   have hlt := (List.getElem?_eq_some_iff.1 hL).1
   rw [hL] at h
   dsimp only at h
   split at h; · cases h; ((try dsimp only at *); omega)
   split at h; · cases h; ((try dsimp only at *); omega)
   split at h; · cases h; ((try dsimp only at *); omega)
   split at h; · cases h; ((try dsimp only at *); omega)
   split at h; · cases h; ((try dsimp only at *); omega)
   split at h; · cases h; ((try dsimp only at *); omega)
   split at h
   · unfold varV at h
     split at h
     · cases h
     · rename_i n j' hn
       have := name_adv L _ _ _ hlt hn
       cases h
       ((try dsimp only at *); omega)
   split at h
   · unfold listP at h
     split at h
     · cases h
     · rename_i l j' hl
       have := loop_adv (N := L.length) (μ := fun _ => 0) (fun i a b j a' hi h => by
        unfold stepL at h
        split at h
        · rename_i he; have := eat_lt he; cases h; ((try dsimp only at *); omega)
        · split at h
          · cases h
          · rename_i v j2 hv
            have := ih _ _ _ hi hv
            cases h; ((try dsimp only at *); omega)) _ _ _ _ _ hlt hl
       cases h
       ((try dsimp only at *); omega)
   split at h
   · unfold objP at h
     split at h
     · cases h
     · rename_i l j' hl
       have := loop_adv (N := L.length) (μ := fun _ => 0) (fun i a b j a' hi h => by
        unfold stepO at h
        split at h
        · rename_i he; have := eat_lt he; cases h; ((try dsimp only at *); omega)
        · split at h
          · cases h
          · rename_i n i2 hn
            have a1 := name_adv L _ _ _ hi hn
            split at h
            · cases h
            · rename_i i3 hm
              have a2 := must_adv hm
              split at h
              · cases h
              · rename_i v j2 hv
                have := ih _ _ _ (by ((try dsimp only at *); omega)) hv
                cases h; ((try dsimp only at *); omega)) _ _ _ _ _ hlt hl
       cases h
       ((try dsimp only at *); omega)
   · cases h
theorem args_adv (L : List Tok) (f : Nat) : AdvP L.length (argsP L f) (fun _ => 0) := by
 intro i x j hi h
 unfold argsP at h
 split at h
 · rename_i he
   have hlt := eat_lt he
   obtain ⟨y, k, h1, h2⟩ := bind_some h
   have := loop_adv (N := L.length) (μ := fun _ => 0) (fun i a b j a' hi h => by
    unfold argStep at h
    split at h
    · rename_i he; simp at he; have := eat_lt he.2; cases h; ((try dsimp only at *); omega)
    · obtain ⟨n, i2, g1, h⟩ := bind_some h
      have a1 := name_adv L _ _ _ hi g1
      obtain ⟨i3, g2, h⟩ := then_some h
      have a2 := must_adv g2
      obtain ⟨v, i4, g3, h⟩ := bind_some h
      have a3 := value_adv L false f _ _ _ a2.2 g3
      cases h; ((try dsimp only at *); omega)) _ _ _ _ _ hlt h1
   cases h2
   ((try dsimp only at *); omega)
 · cases h; ((try dsimp only at *); omega)
theorem dirs_adv (L : List Tok) (f : Nat) : AdvP L.length (dirsP L f) (fun _ => 0) := by
 intro i x j hi h
 have := loop_adv (N := L.length) (μ := fun _ => 0) (fun i a b j a' hi h => by
  unfold dirStep at h
  split at h
  · rename_i he
    have hlt := eat_lt he
    obtain ⟨n, i2, g1, h⟩ := bind_some h
    have a1 := name_adv L _ _ _ hlt g1
    obtain ⟨v, i4, g3, h⟩ := bind_some h
    have a3 := args_adv L f _ _ _ a1.2 g3
    cases h; ((try dsimp only at *); omega)
  · cases h; ((try dsimp only at *); omega)) _ _ _ _ _ hi h
 ((try dsimp only at *); omega)
theorem sel_adv (L : List Tok) (f : Nat) {sP : Nat → Option (List Sel × Nat)} (hs : AdvP L.length sP sizes) : AdvP L.length (selP L f sP) Sel.size := by
 have inl : ∀ on, AdvP L.length (inlP L f sP on) (fun x => x.size - 1) := by
  intro on i x j hi h
  unfold inlP at h
  obtain ⟨ds, i2, g1, h⟩ := bind_some h
  have a1 := dirs_adv L f _ _ _ hi g1
  obtain ⟨sub, i3, g2, h⟩ := bind_some h
  have a2 := hs _ _ _ a1.2 g2
  cases h
  simp only [size_mk]
  ((try dsimp only at *); omega)
 intro i x j hi h
 have pos : 1 ≤ x.size := by cases x; rw [size_mk]; ((try dsimp only at *); omega)
 unfold selP at h
 split at h
 · rename_i he
   have hlt := eat_lt he
   split at h
   · rename_i he2
     have hlt2 := eat_lt he2
     obtain ⟨on, i2, g1, h⟩ := bind_some h
     have a1 := name_adv L _ _ _ hlt2 g1
     have a2 := inl _ _ _ _ a1.2 h
     ((try dsimp only at *); omega)
   · split at h
     · obtain ⟨n, i2, g1, h⟩ := bind_some h
       have a1 := name_adv L _ _ _ hlt g1
       obtain ⟨ds, i3, g2, h⟩ := bind_some h
       have a2 := dirs_adv L f _ _ _ a1.2 g2
       cases h
       simp only [size_mk, sizes]
       ((try dsimp only at *); omega)
     · have a2 := inl _ _ _ _ hlt h
       ((try dsimp only at *); omega)
 · unfold fieldP at h
   obtain ⟨n, i2, g1, h⟩ := bind_some h
   have a1 := name_adv L _ _ _ hi g1
   obtain ⟨y, i3, g2, h⟩ := bind_some h
   have a2 : i2 ≤ i3 ∧ i3 ≤ L.length := by
    unfold aliasP at g2
    split at g2
    · rename_i he
      have hlt := eat_lt he
      obtain ⟨m, i4, g3, g2⟩ := bind_some g2
      have := name_adv L _ _ _ hlt g3
      cases g2
      ((try dsimp only at *); omega)
    · cases g2; ((try dsimp only at *); omega)
   obtain ⟨as, i4, g3, h⟩ := bind_some h
   have a3 := args_adv L f _ _ _ a2.2 g3
   obtain ⟨ds, i5, g4, h⟩ := bind_some h
   have a4 := dirs_adv L f _ _ _ a3.2 g4
   split at h
   · obtain ⟨sub, i6, g5, h⟩ := bind_some h
     have a5 := hs _ _ _ a4.2 g5
     cases h
     simp only [size_mk]
     ((try dsimp only at *); omega)
   · cases h
     simp only [size_mk, sizes]
     ((try dsimp only at *); omega)
theorem sizes_app (a b : List Sel) : sizes (a ++ b) = sizes a + sizes b := by
 induction a with
 | nil => simp [sizes]
 | cons x a ih => rw [List.cons_append, sizes_cons, sizes_cons, ih]; ((try dsimp only at *); omega)
theorem set_adv (L : List Tok) : ∀ f, AdvP L.length (setP L f) sizes
 | 0 => by intro i x j _ h; rw [setP] at h; cases h
 | f + 1 => by
  have ih := sel_adv L f (set_adv L f)
  intro i x j hi h
  rw [setP] at h
  obtain ⟨i2, g1, h⟩ := then_some h
  have a1 := must_adv g1
  have := loop_adv (N := L.length) (μ := sizes) (fun i a b j a' hi h => by
   unfold setStep at h
   obtain ⟨y, i3, g2, h⟩ := bind_some h
   have a2 := ih _ _ _ hi g2
   split at h
   · rename_i he; have := eat_lt he; cases h; rw [sizes_app, sizes_one]; ((try dsimp only at *); omega)
   · cases h; rw [sizes_app, sizes_one]; ((try dsimp only at *); omega)) _ _ _ _ _ a1.2 h
  simp only [sizes] at this
  ((try dsimp only at *); omega)
def fsize (l : List Frag) : Nat := unseen l []
def osize : List Op → Nat
 | [] => 0
 | o :: l => sizes o.sub + osize l
theorem osize_app (a b : List Op) : osize (a ++ b) = osize a + osize b := by
 induction a with
 | nil => simp [osize]
 | cons x a ih => rw [List.cons_append, osize, osize, ih]; ((try dsimp only at *); omega)
theorem osize_mem {l : List Op} {o : Op} (h : o ∈ l) : sizes o.sub ≤ osize l := by
 induction l with
 | nil => cases h
 | cons x l ih =>
  rw [osize]
  rcases List.mem_cons.1 h with rfl | h
  · ((try dsimp only at *); omega)
  · have := ih h; ((try dsimp only at *); omega)
theorem fsize_app (a b : List Frag) : fsize (a ++ b) = fsize a + fsize b := by
 induction a with
 | nil => simp [fsize, unseen]
 | cons x a ih => simp only [fsize, List.cons_append, unseen] at ih ⊢; ((try dsimp only at *); omega)
theorem fsize_one (f : Frag) : fsize [f] = 1 + sizes f.sub := by simp [fsize, unseen, hasN]
theorem vars_adv (L : List Tok) : AdvP L.length (varsP L) (fun _ => 0) := by
 have one : AdvP L.length (varP L) (fun _ => 0) := by
  intro i x j hi h
  unfold varP at h
  obtain ⟨i2, g1, h⟩ := then_some h
  have a1 := must_adv g1
  obtain ⟨n, i3, g2, h⟩ := bind_some h
  have a2 := name_adv L _ _ _ a1.2 g2
  obtain ⟨i4, g3, h⟩ := then_some h
  have a3 := must_adv g3
  obtain ⟨t, i5, g4, h⟩ := bind_some h
  have a4 := type_adv L 24 _ _ _ a3.2 g4
  split at h
  · rename_i he
    have hlt := eat_lt he
    obtain ⟨v, i6, g5, h⟩ := bind_some h
    have a5 := value_adv L true 24 _ _ _ hlt g5
    cases h; ((try dsimp only at *); omega)
  · cases h; ((try dsimp only at *); omega)
 intro i x j hi h
 unfold varsP at h
 split at h
 · rename_i he
   have hlt := eat_lt he
   obtain ⟨v, i2, g1, h⟩ := bind_some h
   have a1 := one _ _ _ hlt g1
   have := loop_adv (N := L.length) (μ := fun _ => 0) (fun i a b j a' hi h => by
    unfold varStep at h
    split at h
    · rename_i he; have := eat_lt he; cases h; ((try dsimp only at *); omega)
    · obtain ⟨v, i2, g1, h⟩ := bind_some h
      have := one _ _ _ hi g1
      cases h; ((try dsimp only at *); omega)) _ _ _ _ _ a1.2 h
   ((try dsimp only at *); omega)
 · cases h; ((try dsimp only at *); omega)
theorem doc_size {L : List Tok} {D : Docm} (h : docP L = some D) : osize D.ops + fsize D.frags ≤ L.length := by
 unfold docP at h
 obtain ⟨y, k, h1, h2⟩ := bind_some h
 have := loop_adv (N := L.length) (μ := fun x : Bool × Docm => osize x.2.ops + fsize x.2.frags) (fun i a b j a' hi h => by
  unfold docStep at h
  split at h
  · cases h; ((try dsimp only at *); omega)
  · split at h
    · rename_i hw
      have hlt := eat_lt (L := L) (i := i) (s := [102, 114, 97, 103, 109, 101, 110, 116]) (by rw [eatB, hw, Bool.or_true])
      obtain ⟨f, i2, g1, h⟩ := bind_some h
      unfold fragP at g1
      split at g1
      · cases g1
      · obtain ⟨n, i3, g2, g1⟩ := bind_some g1
        have a1 := name_adv L _ _ _ hlt g2
        obtain ⟨i4, g3, g1⟩ := then_some g1
        have a2 := must_adv g3
        obtain ⟨on, i5, g4, g1⟩ := bind_some g1
        have a3 := name_adv L _ _ _ a2.2 g4
        obtain ⟨sub, i6, g5, g1⟩ := bind_some g1
        have a4 := set_adv L 24 _ _ _ a3.2 g5
        cases g1
        cases h
        simp only [fsize_app, fsize_one]
        ((try dsimp only at *); omega)
    · obtain ⟨o, i2, g1, h⟩ := bind_some h
      have key : sizes o.sub + i ≤ i2 ∧ i2 ≤ L.length := by
       unfold opP at g1
       split at g1
       · obtain ⟨sub, i6, g5, g1⟩ := bind_some g1
         have a4 := set_adv L 24 _ _ _ hi g5
         cases g1
         exact a4
       · obtain ⟨m, i3, g2, g1⟩ := bind_some g1
         have a1 : i ≤ i3 ∧ i3 ≤ L.length := by
          unfold headP at g2
          split at g2
          · rename_i he; have := eat_lt he; cases g2; ((try dsimp only at *); omega)
          · obtain ⟨i4, g3, g2⟩ := then_some g2
            unfold wordP at g3
            split at g3
            · rename_i hw
              have := eat_lt (L := L) (i := i) (s := [113, 117, 101, 114, 121]) (by rw [eatB, hw, Bool.or_true])
              cases g3
              cases g2
              ((try dsimp only at *); omega)
            · cases g3
         obtain ⟨n, i4, g3, g1⟩ := bind_some g1
         have a2 : i3 ≤ i4 ∧ i4 ≤ L.length := by
          unfold onameP at g3
          split at g3
          · have := name_adv L _ _ _ a1.2 g3; ((try dsimp only at *); omega)
          · cases g3; ((try dsimp only at *); omega)
         obtain ⟨vs, i5, g4, g1⟩ := bind_some g1
         have a3 := vars_adv L _ _ _ a2.2 g4
         obtain ⟨sub, i6, g5, g1⟩ := bind_some g1
         have a4 := set_adv L 24 _ _ _ a3.2 g5
         cases g1
         dsimp only
         ((try dsimp only at *); omega)
      cases h
      simp only [osize_app, osize]
      ((try dsimp only at *); omega)) _ _ _ _ _ (Nat.zero_le _) h1
 cases h2
 simp only [osize, fsize, unseen] at this ⊢
 ((try dsimp only at *); omega)
end Go.Cb.CodeA
