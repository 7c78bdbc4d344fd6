import Derived.Test.YtpalalebligmoaaGreatDoorS7
set_option maxRecDepth 20000
set_option linter.unusedSimpArgs false
set_option linter.unusedVariables false
namespace Go.Cb.CodeA
open Go Go.Cb
theorem cErr_ok (e : Int) : (cErr e).1.Ok := Val.Ok.none
theorem preF_ok {p b : Bool} {v : Val} {r : CRes} (hv : v.Ok) (hr : r.1.Ok) : (preF p b v r).1.Ok := by
  unfold preF
  split
  · exact cErr_ok _
  · split
    · split
      · exact cErr_ok _
      · exact hv
    · exact hr
theorem listG_ok {f : Val → CRes} {b : Bool} : ∀ (l acc : List Val), (∀ x ∈ l, (f x).1.Ok) → (∀ x ∈ acc, x.Ok) → acc.length + l.length ≤ 3000 → (listG f b l acc).1.Ok
  | [], acc, _, ha, hl => .of (by decide) (by simpa using hl) (by intro e; cases e) (by decide) ha
  | x :: l, acc, hf, ha, hl => by
    have hl' : acc.length + (l.length + 1) ≤ 3000 := by simpa using hl
    have h1 : ∀ y : Val, y.Ok → ∀ z ∈ acc ++ [y], z.Ok := fun y hy z hz => by
      rcases List.mem_append.1 hz with h | h
      · exact ha z h
      · simp at h; subst h; exact hy
    have h2 : ∀ y : Val, (acc ++ [y]).length + l.length ≤ 3000 := fun y => by simp; omega
    rw [listG]
    split
    · split
      · exact listG_ok l _ (fun z hz => hf z (by simp [hz])) (h1 _ (hf x (by simp))) (h2 _)
      · split
        · exact cErr_ok _
        · exact listG_ok l _ (fun z hz => hf z (by simp [hz])) (h1 _ Val.Ok.none) (h2 _)
    · exact cErr_ok _
theorem listF_ok {f : Val → CRes} {b : Bool} {v : Val} (hv : v.Ok) (hf : ∀ x : Val, x.Ok → (f x).1.Ok) : (listF f b v).1.Ok := by
  unfold listF
  split
  · exact listG_ok _ _ (fun x hx => hf x (hv.sub x hx)) (by simp) (by have := hv.len.2; simpa using this)
  · exact listG_ok _ _ (fun x hx => by simp at hx; subst hx; exact hf x hv) (by simp) (by simp)
theorem valueF_ok {p : Bool} {N : List Nat → Val → CRes} : ∀ (T : Ty), (∀ x : Val, x.Ok → (N T.leaf x).1.Ok) → ∀ v : Val, v.Ok → (valueF p N T v).1.Ok
  | .one n b, hN, v, hv => preF_ok hv (hN v hv)
  | .lst n t b, hN, v, hv => preF_ok hv (listF_ok hv fun x hx => valueF_ok t hN x hx)
theorem namedF_ok {p : Bool} {fl : Val → CRes} {n : List Nat} {v : Val} (hv : v.Ok) (hf : (fl v).1.Ok) : (namedF p fl n v).1.Ok := by
  unfold namedF
  split
  · exact hv
  split
  · exact hv
  split
  · exact hv
  split
  · exact hv
  split
  · exact .of (by decide) (by decide) (by intro e; cases e) (by decide) (by simp)
  split
  · exact .of (by decide) (by decide) (by intro e; cases e) (by decide) (by simp)
  split
  · exact hf
  · exact cErr_ok _
theorem N0_ok {p : Bool} {n : List Nat} {v : Val} (hv : v.Ok) : (N0 p n v).1.Ok := namedF_ok hv (cErr_ok _)
theorem dflF_ok {f : FD} (hf : f.v.Ok) {r : CRes} (hr : r.1.Ok) : (dflF N0 f r).1.Ok := by
  unfold dflF
  split
  · exact valueF_ok f.T (fun x hx => N0_ok hx) _ hf
  · exact hr
theorem giveF_ok {p : Bool} {f : FD} (hf : f.v.Ok) {v : Val} (hv : v.Ok) : (giveF N0 p f v).1.Ok := by
  unfold giveF
  refine dflF_ok hf ?_
  cases h : v.at f.name with
  | none => exact Val.Ok.none
  | some x => exact valueF_ok f.T (fun x hx => N0_ok hx) _ (at_ok hv h)
theorem goF_ok {p : Bool} {v : Val} (hv : v.Ok) : ∀ (F : List FD) (ks : List (List Nat)) (ls : List Val), (∀ f ∈ F, f.v.Ok) → (∀ x ∈ ls, x.Ok) → ks.length = ls.length → ls.length + F.length ≤ 3000 → (goF N0 p v F ks ls).1.Ok
  | [], ks, ls, _, hl, he, hn => .of (by rw [he]; simpa using hn) (by simpa using hn) (fun _ => he) (by decide) hl
  | f :: F, ks, ls, hF, hl, he, hn => by
    have hn' : ls.length + (F.length + 1) ≤ 3000 := by simpa using hn
    rw [goF]
    split
    · split
      · refine goF_ok hv F _ _ (fun g hg => hF g (by simp [hg])) (fun z hz => ?_) (by simp [he]) (by simp; omega)
        rcases List.mem_append.1 hz with h | h
        · exact hl z h
        · simp at h; subst h; exact giveF_ok (hF f (by simp)) hv
      · split
        · exact cErr_ok _
        · exact goF_ok hv F _ _ (fun g hg => hF g (by simp [hg])) hl he (by omega)
    · exact cErr_ok _
theorem fieldsF_ok {p : Bool} {v : Val} (hv : v.Ok) : (fieldsF N0 FI p v).1.Ok := by
  unfold fieldsF
  split
  · exact goF_ok hv FI _ _ FI_ok (by simp) rfl (by decide)
  · exact cErr_ok _
theorem valF_ok (p : Bool) (T : Ty) {v : Val} (hv : v.Ok) : (valF p T v).1.Ok := valueF_ok T (fun x hx => namedF_ok hx (fieldsF_ok hx)) v hv

/-! an object's fields in another order -/
theorem gI_get : ∀ {ks : List (List Nat)} {n : List Nat} {i : Nat}, gI ks n = some i → ks[i]? = some n
  | [], n, i, h => by cases h
  | x :: xs, n, i, h => by
    rw [gI] at h
    split at h
    · rename_i hx
      injection h with h; subst h
      rw [(eqN_iff _ _).1 hx]; rfl
    · cases hg : gI xs n with
      | none => rw [hg] at h; cases h
      | some j =>
        rw [hg] at h
        injection h with h
        subst h
        simpa using gI_get hg
theorem gI_append (n : List Nat) : ∀ (A B : List (List Nat)), gI (A ++ B) n = match gI A n with | some i => some i | none => (gI B n).map (· + A.length)
  | [], B => by simp [gI]
  | a :: A, B => by
    rw [List.cons_append, gI, gI, gI_append n A B]
    split
    · rfl
    · cases gI A n with
      | some i => rfl
      | none =>
        cases gI B n with
        | none => rfl
        | some j => simp; omega
theorem gI_none {ks : List (List Nat)} {n : List Nat} (h : n ∉ ks) : gI ks n = none := by
  cases hg : gI ks n with
  | none => rfl
  | some i => exact absurd (List.mem_of_getElem? (gI_get hg)) h
theorem gI_some {ks : List (List Nat)} {n : List Nat} (h : n ∈ ks) : (gI ks n).isSome = true := by
  induction ks with
  | nil => cases h
  | cons x xs ih =>
    rw [gI]
    split
    · rfl
    · rename_i hx
      rcases List.mem_cons.1 h with rfl | h
      · exact absurd (eqN_refl _) hx
      · have := ih h
        cases hg : gI xs n with
        | none => rw [hg] at this; cases this
        | some i => rfl
theorem gI_iff {ks : List (List Nat)} {n : List Nat} : (gI ks n).isSome = true ↔ n ∈ ks := ⟨fun h => by
  cases hg : gI ks n with
  | none => rw [hg] at h; cases h
  | some i => exact List.mem_of_getElem? (gI_get hg), gI_some⟩
theorem at_rot {m : Int} {s : List Nat} {A B : List (List Nat)} {LA LB : List Val} (hA : A.length = LA.length) (hB : B.length = LB.length) (hd : ∀ x ∈ A, x ∉ B) (n : List Nat) :
    (Val.mk 6 0 [] (B ++ A) (LB ++ LA)).at n = (Val.mk 6 m s (A ++ B) (LA ++ LB)).at n := by
  rw [Val.at, Val.at, if_pos (by decide), if_pos (by decide), gI_append, gI_append]
  by_cases h1 : n ∈ A
  · rw [gI_none (hd n h1)]
    have := gI_some h1
    cases hg : gI A n with
    | none => rw [hg] at this; cases this
    | some i =>
      have hi := gI_lt A n i hg
      simp only [Option.map_some]
      rw [List.getElem?_append_right (by omega), List.getElem?_append_left (by omega)]
      congr 1
      omega
  · rw [gI_none h1]
    cases hg : gI B n with
    | none => rfl
    | some i =>
      have hi := gI_lt B n i hg
      simp only [Option.map_some]
      rw [List.getElem?_append_left (by omega), List.getElem?_append_right (by omega)]
      congr 1
      omega
theorem badL_zero {F : List FD} : ∀ {ks seen : List (List Nat)}, badL F seen ks = 0 ↔ (∀ k ∈ ks, k ∉ seen) ∧ ks.Nodup ∧ ∀ k ∈ ks, memF F k = true
  | [], seen => by simp [badL]
  | k :: ks, seen => by
    rw [badL]
    by_cases h1 : k ∈ seen
    · rw [if_pos (gI_some h1)]
      refine ⟨fun h => absurd h (by decide), fun h => absurd h1 (h.1 k (by simp))⟩
    rw [if_neg (fun h => h1 (gI_iff.1 h))]
    by_cases h2 : memF F k = true
    · rw [if_pos h2, badL_zero (ks := ks) (seen := seen ++ [k])]
      constructor
      · rintro ⟨a, b, c⟩
        refine ⟨fun j hj => ?_, List.nodup_cons.2 ⟨fun hk => a k hk (by simp), b⟩, fun j hj => ?_⟩
        · rcases List.mem_cons.1 hj with rfl | hj
          · exact h1
          · exact fun h => a j hj (List.mem_append_left _ h)
        · rcases List.mem_cons.1 hj with rfl | hj
          · exact h2
          · exact c j hj
      · rintro ⟨a, b, c⟩
        obtain ⟨b1, b2⟩ := List.nodup_cons.1 b
        refine ⟨fun j hj h => ?_, b2, fun j hj => c j (List.mem_cons_of_mem _ hj)⟩
        rcases List.mem_append.1 h with h | h
        · exact a j (List.mem_cons_of_mem _ hj) h
        · rw [List.mem_singleton] at h
          exact b1 (h ▸ hj)
    · rw [if_neg h2]
      exact ⟨fun h => absurd h (by decide), fun h => absurd (h.2.2 k (by simp)) h2⟩
theorem goF_congr {N : Bool → List Nat → Val → CRes} {p : Bool} {u v : Val} (h : ∀ n, u.at n = v.at n) : ∀ (F : List FD) (ks : List (List Nat)) (ls : List Val), goF N p u F ks ls = goF N p v F ks ls
  | [], _, _ => rfl
  | f :: F, ks, ls => by
    have e : giveF N p f u = giveF N p f v := by unfold giveF; rw [h]
    rw [goF, goF, e, goF_congr h F, goF_congr h F]
theorem namedI (p : Bool) (fl : Val → CRes) (v : Val) (h : v.kind = 6) : namedF p fl sI v = ((fl v).1, eqI (fl v).2.2 0, (fl v).2.2) := by
  unfold namedF
  rw [h]
  rfl
theorem eqI_zero (n : Int) : (eqI n 0 = true) ↔ n = 0 := by rw [eqI_eq]; simp
/-- an object's fields in another order make no difference -/
theorem order_pure {m : Int} {s : List Nat} {A B : List (List Nat)} {LA LB : List Val} (hA : A.length = LA.length) (hB : B.length = LB.length) (hd : (A ++ B).Nodup) :
    (valF true (.one sI false) (.mk 6 0 [] (B ++ A) (LB ++ LA))).1 = (valF true (.one sI false) (.mk 6 m s (A ++ B) (LA ++ LB))).1 ∧
    ((valF true (.one sI false) (.mk 6 0 [] (B ++ A) (LB ++ LA))).2.2 = 0 ↔ (valF true (.one sI false) (.mk 6 m s (A ++ B) (LA ++ LB))).2.2 = 0) := by
  have e : ∀ v : Val, v.kind = 6 → valF true (.one sI false) v = ((fieldsF N0 FI true v).1, eqI (fieldsF N0 FI true v).2.2 0, (fieldsF N0 FI true v).2.2) := fun v hv => by
    show preF true false v (NF true sI v) = _
    rw [NF, namedI _ _ _ hv, preF, hv]
    rfl
  rw [e _ rfl, e _ rfl]
  have hdd : ∀ x ∈ A, x ∉ B := fun x hx hb => (List.nodup_append.1 hd).2.2 x hx x hb rfl
  have hb : badL FI [] (B ++ A) = 0 ↔ badL FI [] (A ++ B) = 0 := by
    rw [badL_zero, badL_zero]
    have hp : (B ++ A).Perm (A ++ B) := List.perm_append_comm
    simp only [hp.mem_iff, hp.nodup_iff]
  have hg := goF_congr (N := N0) (p := true) (at_rot (m := m) (s := s) hA hB hdd) FI [] []
  unfold fieldsF
  rw [hg]
  rw [show (Val.mk 6 0 [] (B ++ A) (LB ++ LA)).names = B ++ A from rfl, show (Val.mk 6 m s (A ++ B) (LA ++ LB)).names = A ++ B from rfl]
  by_cases h : badL FI [] (A ++ B) = 0
  · rw [if_pos ((eqI_zero _).2 (hb.2 h)), if_pos ((eqI_zero _).2 h)]
    exact ⟨rfl, Iff.rfl⟩
  · have h' : ¬ badL FI [] (B ++ A) = 0 := fun x => h (hb.1 x)
    rw [if_neg (fun x => h' ((eqI_zero _).1 x)), if_neg (fun x => h ((eqI_zero _).1 x))]
    exact ⟨rfl, fun x => absurd x (by exact h'), fun x => absurd x (by exact h)⟩
end Go.Cb.CodeA
