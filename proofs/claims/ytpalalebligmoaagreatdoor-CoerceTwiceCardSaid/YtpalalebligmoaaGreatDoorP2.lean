import Derived.Test.YtpalalebligmoaaGreatDoorF2
set_option maxRecDepth 20000
set_option linter.unusedSimpArgs false
set_option linter.unusedVariables false
namespace Go.Cb.CodeA
open Go Go.Cb
theorem eqI_iff (a b : Int) : eqI a b = true ↔ a = b := by rw [eqI_eq]; simp
theorem eqI_ne (a b : Int) : eqI a b = false ↔ a ≠ b := by rw [eqI_eq]; simp
theorem wrap_i32_i64 {n : Int} (h : -9223372036854775808 ≤ n ∧ n ≤ 9223372036854775807) : eqI n (wrapA .i64 (wrapA .i32 n)) = (!ltI n (-2147483648) && !ltI 2147483647 n) := by
  have hw : -2147483648 ≤ wrapA .i32 n ∧ wrapA .i32 n ≤ 2147483647 := by
    rw [wrapA_eq]
    simp only [IntKind.wrap, IntKind.signed, IntKind.bits, Bool.true_and]
    split
    · rename_i h; have h := of_decide_eq_true h; omega
    · rename_i h; have h : ¬ (n % 2 ^ 32 ≥ 2 ^ (32 - 1)) := fun x => h (decide_eq_true x); omega
  rw [wrap64 (by omega) (by omega), Bool.eq_iff_iff, eqI_iff, ltI_eq, ltI_eq]
  simp only [Bool.and_eq_true, Bool.not_eq_true', decide_eq_false_iff_not, Int.not_lt]
  constructor
  · intro e; omega
  · intro ⟨h1, h2⟩
    rw [wrapA_eq]
    simp only [IntKind.wrap, IntKind.signed, IntKind.bits, Bool.true_and]
    split
    · rename_i h; have h := of_decide_eq_true h; omega
    · rename_i h; have h : ¬ (n % 2 ^ 32 ≥ 2 ^ (32 - 1)) := fun x => h (decide_eq_true x); omega
/-- the names that the schema knows -/
theorem name_cases {Q : List Nat → Prop} (h1 : Q sInt) (h2 : Q sString) (h3 : Q sBool) (h4 : Q sID) (h5 : Q sE) (h6 : Q sI)
    (h0 : ∀ n, eqN n [73, 110, 116] = false → eqN n [83, 116, 114, 105, 110, 103] = false → eqN n [66, 111, 111, 108, 101, 97, 110] = false → eqN n [73, 68] = false → eqI (tk n) 4 = false → eqI (tk n) 5 = false → Q n) (n : List Nat) : Q n := by
  by_cases e1 : n = sInt
  · subst e1; exact h1
  by_cases e2 : n = sString
  · subst e2; exact h2
  by_cases e3 : n = sBool
  · subst e3; exact h3
  by_cases e4 : n = sID
  · subst e4; exact h4
  by_cases e5 : n = sE
  · subst e5; exact h5
  by_cases e6 : n = sI
  · subst e6; exact h6
  refine h0 n ((eqN_false _ _).2 e1) ((eqN_false _ _).2 e2) ((eqN_false _ _).2 e3) ((eqN_false _ _).2 e4) ?_ ?_
  · rcases bool_tf (eqI (tk n) 4) with h | h
    · exact absurd (tk_E h) e5
    · exact h
  · rcases bool_tf (eqI (tk n) 5) with h | h
    · exact absurd (tk_I h) e6
    · exact h
theorem named_int (p : Bool) (fl : Val → CRes) (v : Val) : namedF p fl sInt v = if eqI v.kind 1 && eqI v.num (wrapA .i64 (wrapA .i32 v.num)) then (v, true, 0) else cErr 8 := rfl
theorem named_string (p : Bool) (fl : Val → CRes) (v : Val) : namedF p fl sString v = if eqI v.kind 2 then (v, true, 0) else cErr 8 := rfl
theorem named_bool (p : Bool) (fl : Val → CRes) (v : Val) : namedF p fl sBool v = if eqI v.kind 3 then (v, true, 0) else cErr 8 := rfl
theorem named_id (p : Bool) (fl : Val → CRes) (v : Val) : namedF p fl sID v = if eqI v.kind 2 then (v, true, 0) else if eqI v.kind 1 then (.mk 2 0 (itoaN v.num) [] [], true, 0) else cErr 8 := rfl
theorem named_e (p : Bool) (fl : Val → CRes) (v : Val) : namedF p fl sE v = if (eqI v.kind 4 || eqI v.kind 2 && p) && (gI [[65], [66]] v.text).isSome then (.mk 4 0 v.text [] [], true, 0) else cErr 8 := rfl
theorem named_i (p : Bool) (fl : Val → CRes) (v : Val) : namedF p fl sI v = if eqI v.kind 6 then ((fl v).1, eqI (fl v).2.2 0, (fl v).2.2) else cErr 8 := rfl
theorem named_else (p : Bool) (fl : Val → CRes) (n : List Nat) (v : Val) (h1 : eqN n [73, 110, 116] = false) (h2 : eqN n [83, 116, 114, 105, 110, 103] = false) (h3 : eqN n [66, 111, 111, 108, 101, 97, 110] = false) (h4 : eqN n [73, 68] = false) (h5 : eqI (tk n) 4 = false) (h6 : eqI (tk n) 5 = false) : namedF p fl n v = cErr 8 := by
  unfold namedF
  rw [h1, h2, h3, h4, h5, h6]
  rfl
theorem fit_int (fl : Val → Bool) (v : Val) : fitNm fl sInt v = (eqI v.kind 1 && !ltI v.num (-2147483648) && !ltI 2147483647 v.num) := rfl
theorem fit_id (fl : Val → Bool) (v : Val) : fitNm fl sID v = (eqI v.kind 2 || eqI v.kind 1) := rfl
theorem fit_e (fl : Val → Bool) (v : Val) : fitNm fl sE v = (eqI v.kind 4 && (gI [[65], [66]] v.text).isSome) := rfl
theorem fit_i (fl : Val → Bool) (v : Val) : fitNm fl sI v = if !eqI v.kind 6 then false else fl v := rfl
/-! what was made a value of a type, made so again -/
def Good (f : Val → CRes) (g : Val → Bool) (r : CRes) : Prop := (r.2.2 = 0 ∧ r.2.1 = true ∧ f r.1 = (r.1, true, 0) ∧ g r.1 = true) ∨ (r.2.2 ≠ 0 ∧ r.1 = Val.none)
def GoodK (f : Val → CRes) (g : Val → Bool) (r : CRes) : Prop := Good f g r ∧ (r.2.2 = 0 → r.1.kind ≠ 0)
theorem good_err {f : Val → CRes} {g : Val → Bool} {e : Int} (h : e ≠ 0) : Good f g (cErr e) := .inr ⟨h, rfl⟩
theorem goodK_err {f : Val → CRes} {g : Val → Bool} {e : Int} (h : e ≠ 0) : GoodK f g (cErr e) := ⟨good_err h, fun x => absurd x h⟩
theorem pre_good {b : Bool} {f : Val → CRes} {g : Val → Bool} {v : Val} (h : v.kind ≠ 0 → GoodK f g (f v)) :
    Good (fun v => preF true b v (f v)) (fun v => if eqI v.kind 0 then !b else g v) (preF true b v (f v)) := by
  unfold preF
  simp only [Bool.not_true, Bool.and_false, Bool.false_eq_true, if_false]
  by_cases h0 : v.kind = 0
  · rw [if_pos ((eqI_iff _ _).2 h0)]
    cases b with
    | true => exact good_err (by decide)
    | false =>
      simp only [Bool.false_eq_true, if_false]
      refine .inl ⟨rfl, rfl, ?_, ?_⟩
      · dsimp only
        rw [if_pos ((eqI_iff _ _).2 h0)]
      · dsimp only
        rw [if_pos ((eqI_iff _ _).2 h0)]
        rfl
  · rw [if_neg (fun x => h0 ((eqI_iff _ _).1 x))]
    obtain ⟨hg, hk⟩ := h h0
    rcases hg with ⟨h1, h2, h3, h4⟩ | h
    · refine .inl ⟨h1, h2, ?_, ?_⟩
      · dsimp only
        rw [if_neg (fun x => hk h1 ((eqI_iff _ _).1 x))]
        exact h3
      · dsimp only
        rw [if_neg (fun x => hk h1 ((eqI_iff _ _).1 x))]
        exact h4
    · exact .inr h
theorem listG_fix {f : Val → CRes} {b : Bool} : ∀ (l acc : List Val), (∀ y ∈ l, f y = (y, true, 0)) → listG f b l acc = (.mk 5 0 [] [] (acc ++ l), true, 0)
  | [], acc, _ => by rw [listG, List.append_nil]
  | x :: l, acc, h => by
    rw [listG, h x (by simp)]
    rw [if_pos (by rfl), if_pos rfl, listG_fix l _ fun y hy => h y (by simp [hy])]
    simp
theorem listG_good {f : Val → CRes} {g : Val → Bool} {b : Bool} : ∀ (l acc : List Val), (∀ x ∈ l, Good f g (f x)) → (∀ y ∈ acc, f y = (y, true, 0) ∧ g y = true) →
    ((listG f b l acc).2.2 ≠ 0 ∧ (listG f b l acc).1 = Val.none) ∨ ∃ ys, listG f b l acc = (.mk 5 0 [] [] ys, true, 0) ∧ ∀ y ∈ ys, f y = (y, true, 0) ∧ g y = true
  | [], acc, _, ha => .inr ⟨acc, rfl, ha⟩
  | x :: l, acc, h, ha => by
    rw [listG]
    rcases h x (by simp) with ⟨h1, h2, h3, h4⟩ | ⟨h1, h2⟩
    · rw [if_pos ((eqI_iff _ _).2 h1), if_pos h2]
      refine listG_good l _ (fun z hz => h z (by simp [hz])) fun y hy => ?_
      rcases List.mem_append.1 hy with hy | hy
      · exact ha y hy
      · simp at hy; subst hy; exact ⟨h3, h4⟩
    · rw [if_neg (fun x => h1 ((eqI_iff _ _).1 x))]
      exact .inl ⟨h1, rfl⟩
theorem list_good {f : Val → CRes} {g : Val → Bool} {b : Bool} {v : Val} (hv : v.Ok) (hk : v.kind ≠ 0) (h : ∀ x : Val, x.Ok → Good f g (f x)) :
    GoodK (listF f b) (fun v => if eqI v.kind 5 then v.vals.all g else g v) (listF f b v) := by
  have hl : ∀ x ∈ (if eqI v.kind 5 then v.vals else [v]), Good f g (f x) := by
    intro x hx
    split at hx
    · exact h x (hv.sub x hx)
    · simp at hx; subst hx; exact h _ hv
  unfold listF
  rcases listG_good (b := b) _ [] hl (by simp) with h1 | ⟨ys, h1, h2⟩
  · exact ⟨.inr h1, fun x => absurd x h1.1⟩
  · rw [h1]
    refine ⟨.inl ⟨rfl, rfl, ?_, ?_⟩, fun _ => (show (5 : Int) ≠ 0 by decide)⟩
    · show listG f b ys [] = _
      rw [listG_fix ys [] fun y hy => (h2 y hy).1]
      rfl
    · show ys.all g = true
      rw [List.all_eq_true]
      exact fun y hy => (h2 y hy).2
theorem value_good {N : List Nat → Val → CRes} {B : List Nat → Val → Bool} : ∀ (T : Ty), (∀ x : Val, x.Ok → x.kind ≠ 0 → GoodK (N T.leaf) (B T.leaf) (N T.leaf x)) → ∀ v : Val, v.Ok → Good (valueF true N T) (fitG B T) (valueF true N T v)
  | .one n b, hN, v, hv => pre_good (f := N n) (g := B n) fun h => hN v hv h
  | .lst n t b, hN, v, hv => pre_good (f := listF (valueF true N t) t.bang) (g := fun v => if eqI v.kind 5 then v.vals.all (fitG B t) else fitG B t v) fun h => list_good hv h fun x hx => value_good t hN x hx
theorem named_good {fl : Val → CRes} {fb : Val → Bool} {n : List Nat} {v : Val} (hv : v.Ok) (h : n = sI → v.kind = 6 → GoodK fl fb (fl v) ∧ (fl v).1.kind = 6 ∨ ((fl v).2.2 ≠ 0 ∧ (fl v).1 = Val.none)) : GoodK (namedF true fl n) (fitNm fb n) (namedF true fl n v) := by
  have hr := hv.inR
  revert h
  refine name_cases (Q := fun n => (n = sI → v.kind = 6 → GoodK fl fb (fl v) ∧ (fl v).1.kind = 6 ∨ ((fl v).2.2 ≠ 0 ∧ (fl v).1 = Val.none)) → GoodK (namedF true fl n) (fitNm fb n) (namedF true fl n v)) ?_ ?_ ?_ ?_ ?_ ?_ ?_ n
  · intro _
    rcases bool_tf (eqI v.kind 1 && eqI v.num (wrapA .i64 (wrapA .i32 v.num))) with c | c
    · have e : namedF true fl sInt v = (v, true, 0) := by rw [named_int, if_pos c]
      have c' := c
      rw [wrap_i32_i64 hr] at c'
      refine ⟨.inl ⟨by rw [e], by rw [e], by rw [e]; exact e, by rw [e]; show fitNm fb sInt v = true; rw [fit_int, Bool.and_assoc]; exact c'⟩, fun _ => ?_⟩
      rw [e]
      simp only [Bool.and_eq_true] at c
      rw [(eqI_iff _ _).1 c.1]
      decide
    · rw [named_int, if_neg (by rw [c]; decide)]
      exact goodK_err (by decide)
  · intro _
    rcases bool_tf (eqI v.kind 2) with c | c
    · have e : namedF true fl sString v = (v, true, 0) := by rw [named_string, if_pos c]
      refine ⟨.inl ⟨by rw [e], by rw [e], by rw [e]; exact e, by rw [e]; exact c⟩, fun _ => ?_⟩
      rw [e, (eqI_iff _ _).1 c]
      decide
    · rw [named_string, if_neg (by rw [c]; decide)]
      exact goodK_err (by decide)
  · intro _
    rcases bool_tf (eqI v.kind 3) with c | c
    · have e : namedF true fl sBool v = (v, true, 0) := by rw [named_bool, if_pos c]
      refine ⟨.inl ⟨by rw [e], by rw [e], by rw [e]; exact e, by rw [e]; exact c⟩, fun _ => ?_⟩
      rw [e, (eqI_iff _ _).1 c]
      decide
    · rw [named_bool, if_neg (by rw [c]; decide)]
      exact goodK_err (by decide)
  · intro _
    rcases bool_tf (eqI v.kind 2) with c | c
    · have e : namedF true fl sID v = (v, true, 0) := by rw [named_id, if_pos c]
      refine ⟨.inl ⟨by rw [e], by rw [e], by rw [e]; exact e, by rw [e]; show fitNm fb sID v = true; rw [fit_id, c]; rfl⟩, fun _ => ?_⟩
      rw [e, (eqI_iff _ _).1 c]
      decide
    rcases bool_tf (eqI v.kind 1) with c1 | c1
    · have e : namedF true fl sID v = (.mk 2 0 (itoaN v.num) [] [], true, 0) := by rw [named_id, if_neg (by rw [c]; decide), if_pos c1]
      refine ⟨.inl ⟨by rw [e], by rw [e], by rw [e]; rfl, by rw [e]; rfl⟩, fun _ => by rw [e]; exact (show (2 : Int) ≠ 0 by decide)⟩
    · rw [named_id, if_neg (by rw [c]; decide), if_neg (by rw [c1]; decide)]
      exact goodK_err (by decide)
  · intro _
    rcases bool_tf ((eqI v.kind 4 || eqI v.kind 2 && true) && (gI [[65], [66]] v.text).isSome) with c | c
    · have e : namedF true fl sE v = (.mk 4 0 v.text [] [], true, 0) := by rw [named_e, if_pos c]
      have c2 : (gI [[65], [66]] v.text).isSome = true := by simp only [Bool.and_eq_true] at c; exact c.2
      refine ⟨.inl ⟨by rw [e], by rw [e], ?_, ?_⟩, fun _ => by rw [e]; exact (show (4 : Int) ≠ 0 by decide)⟩
      · rw [e]
        dsimp only
        rw [named_e, show (Val.mk 4 0 v.text [] []).text = v.text from rfl, c2]
        rfl
      · rw [e]
        dsimp only
        rw [fit_e, show (Val.mk 4 0 v.text [] []).text = v.text from rfl, c2]
        rfl
    · rw [named_e, if_neg (by rw [c]; decide)]
      exact goodK_err (by decide)
  · intro h
    rcases bool_tf (eqI v.kind 6) with c | c
    · have e : namedF true fl sI v = ((fl v).1, eqI (fl v).2.2 0, (fl v).2.2) := by rw [named_i, if_pos c]
      rcases h rfl ((eqI_iff _ _).1 c) with ⟨⟨hg, hk⟩, h6⟩ | ⟨h1, h2⟩
      · rcases hg with ⟨h1, h2, h3, h4⟩ | ⟨h1, h2⟩
        · refine ⟨.inl ⟨by rw [e]; exact h1, by rw [e, h1]; rfl, ?_, ?_⟩, fun _ => by rw [e, h6]; decide⟩
          · rw [e]
            dsimp only
            rw [named_i, if_pos ((eqI_iff _ _).2 h6), h3]
            rfl
          · rw [e]
            dsimp only
            rw [fit_i, if_neg (by rw [(eqI_iff _ _).2 h6]; decide)]
            exact h4
        · rw [e]
          exact ⟨.inr ⟨h1, h2⟩, fun x => absurd x h1⟩
      · rw [e]
        exact ⟨.inr ⟨h1, h2⟩, fun x => absurd x h1⟩
    · rw [named_i, if_neg (by rw [c]; decide)]
      exact goodK_err (by decide)
  · intro n h1 h2 h3 h4 h5 h6 _
    rw [named_else _ _ _ _ h1 h2 h3 h4 h5 h6]
    exact goodK_err (by decide)
end Go.Cb.CodeA
