import Derived.Test.YtpalalebligmoaaGreatDoorF2
set_option maxRecDepth 20000
set_option linter.unusedSimpArgs false
set_option linter.unusedVariables false
namespace Go.Cb.CodeA
open Go Go.Cb
theorem eqI_iff (a b : Int) : eqI a b = true ↔ a = b := by rw [eqI_eq]; simp
theorem eqI_ne (a b : Int) : eqI a b = false ↔ a ≠ b := by rw [eqI_eq]; simp
theorem wrap_i32_i64 {n : Int} (h : -9223372036854775808 ≤ n ∧ n ≤ 9223372036854775807) : eqI n (wrapA .i64 (wrapA .i32 n)) = (!ltI n (-2147483648) && !ltI 2147483647 n) := by
  have hw : -2147483648 ≤ wrapA .i32 n ∧ wrapA .i32 n ≤ 2147483647 := by
    rw [wrapA_eq]
    simp only [IntKind.wrap, IntKind.signed, IntKind.bits, Bool.true_and]
    split
    · rename_i h; have h := of_decide_eq_true h; omega
    · rename_i h; have h : ¬ (n % 2 ^ 32 ≥ 2 ^ (32 - 1)) := fun x => h (decide_eq_true x); omega
  rw [wrap64 (by omega) (by omega), Bool.eq_iff_iff, eqI_iff, ltI_eq, ltI_eq]
  simp only [Bool.and_eq_true, Bool.not_eq_true', decide_eq_false_iff_not, Int.not_lt]
  constructor
  · intro e; omega
  · intro ⟨h1, h2⟩
    rw [wrapA_eq]
    simp only [IntKind.wrap, IntKind.signed, IntKind.bits, Bool.true_and]
    split
    · rename_i h; have h := of_decide_eq_true h; omega
    · rename_i h; have h : ¬ (n % 2 ^ 32 ≥ 2 ^ (32 - 1)) := fun x => h (decide_eq_true x); omega
/-- the names that the schema knows -/
theorem name_cases {Q : List Nat → Prop} (h1 : Q sInt) (h2 : Q sString) (h3 : Q sBool) (h4 : Q sID) (h5 : Q sE) (h6 : Q sI)
    (h0 : ∀ n, eqN n [73, 110, 116] = false → eqN n [83, 116, 114, 105, 110, 103] = false → eqN n [66, 111, 111, 108, 101, 97, 110] = false → eqN n [73, 68] = false → eqI (tk n) 4 = false → eqI (tk n) 5 = false → Q n) (n : List Nat) : Q n := by
  by_cases e1 : n = sInt
  · subst e1; exact h1
  by_cases e2 : n = sString
  · subst e2; exact h2
  by_cases e3 : n = sBool
  · subst e3; exact h3
  by_cases e4 : n = sID
  · subst e4; exact h4
  by_cases e5 : n = sE
  · subst e5; exact h5
  by_cases e6 : n = sI
  · subst e6; exact h6
  refine h0 n ((eqN_false _ _).2 e1) ((eqN_false _ _).2 e2) ((eqN_false _ _).2 e3) ((eqN_false _ _).2 e4) ?_ ?_
  · rcases bool_tf (eqI (tk n) 4) with h | h
    · exact absurd (tk_E h) e5
    · exact h
  · rcases bool_tf (eqI (tk n) 5) with h | h
    · exact absurd (tk_I h) e6
    · exact h
theorem named_int (p : Bool) (fl : Val → CRes) (v : Val) : namedF p fl sInt v = if eqI v.kind 1 && eqI v.num (wrapA .i64 (wrapA .i32 v.num)) then (v, true, 0) else cErr 8 := rfl
theorem named_string (p : Bool) (fl : Val → CRes) (v : Val) : namedF p fl sString v = if eqI v.kind 2 then (v, true, 0) else cErr 8 := rfl
theorem named_bool (p : Bool) (fl : Val → CRes) (v : Val) : namedF p fl sBool v = if eqI v.kind 3 then (v, true, 0) else cErr 8 := rfl
theorem named_id (p : Bool) (fl : Val → CRes) (v : Val) : namedF p fl sID v = if eqI v.kind 2 then (v, true, 0) else if eqI v.kind 1 then (.mk 2 0 (itoaN v.num) [] [], true, 0) else cErr 8 := rfl
theorem named_e (p : Bool) (fl : Val → CRes) (v : Val) : namedF p fl sE v = if (eqI v.kind 4 || eqI v.kind 2 && p) && (gI [[65], [66]] v.text).isSome then (.mk 4 0 v.text [] [], true, 0) else cErr 8 := rfl
theorem named_i (p : Bool) (fl : Val → CRes) (v : Val) : namedF p fl sI v = if eqI v.kind 6 then ((fl v).1, eqI (fl v).2.2 0, (fl v).2.2) else cErr 8 := rfl
theorem named_else (p : Bool) (fl : Val → CRes) (n : List Nat) (v : Val) (h1 : eqN n [73, 110, 116] = false) (h2 : eqN n [83, 116, 114, 105, 110, 103] = false) (h3 : eqN n [66, 111, 111, 108, 101, 97, 110] = false) (h4 : eqN n [73, 68] = false) (h5 : eqI (tk n) 4 = false) (h6 : eqI (tk n) 5 = false) : namedF p fl n v = cErr 8 := by
  unfold namedF
  rw [h1, h2, h3, h4, h5, h6]
  rfl
theorem fit_int (fl : Val → Bool) (v : Val) : fitNm fl sInt v = (eqI v.kind 1 && !ltI v.num (-2147483648) && !ltI 2147483647 v.num) := rfl
theorem fit_string (fl : Val → Bool) (v : Val) : fitNm fl sString v = eqI v.kind 2 := rfl
theorem fit_bool (fl : Val → Bool) (v : Val) : fitNm fl sBool v = eqI v.kind 3 := rfl
theorem fit_id (fl : Val → Bool) (v : Val) : fitNm fl sID v = (eqI v.kind 2 || eqI v.kind 1) := rfl
theorem fit_e (fl : Val → Bool) (v : Val) : fitNm fl sE v = (eqI v.kind 4 && (gI [[65], [66]] v.text).isSome) := rfl
theorem fit_i (fl : Val → Bool) (v : Val) : fitNm fl sI v = if !eqI v.kind 6 then false else fl v := rfl
theorem fit_else (fl : Val → Bool) (n : List Nat) (v : Val) (h1 : eqN n [73, 110, 116] = false) (h2 : eqN n [83, 116, 114, 105, 110, 103] = false) (h3 : eqN n [66, 111, 111, 108, 101, 97, 110] = false) (h4 : eqN n [73, 68] = false) (h5 : eqI (tk n) 4 = false) (h6 : eqI (tk n) 5 = false) : fitNm fl n v = false := by
  unfold fitNm
  rw [h1, h2, h3, h4, h5, h6]
  rfl

/-! what was made a value of a type, made so again -/
end Go.Cb.CodeA
