/-
  THE ABSTRACT MACHINE, part 35: small laws on numbers and rows, for walks with unknowns.
-/
import Derived.Test.YtkfbiiedabbgfaaDoorXAm34
import Derived.Test.YtkfbiiedabbgfaaDoorXAm6
set_option maxRecDepth 4000
set_option linter.unusedVariables false
namespace Go.Cb
open Classical

theorem wrap64 {n : Int} (h1 : -9223372036854775808 ≤ n) (h2 : n < 9223372036854775808) : wrapA .i64 n = n := by
  rw [wrapA_eq]
  simp only [IntKind.wrap, IntKind.signed, IntKind.bits, Bool.true_and]
  split
  · rename_i h; have h := of_decide_eq_true h; omega
  · rename_i h; have h : ¬ (n % 2 ^ 64 ≥ 2 ^ (64 - 1)) := fun x => h (decide_eq_true x); omega
theorem wrap8 {n : Int} (h1 : 0 ≤ n) (h2 : n < 256) : wrapA .u8 n = n := by
  rw [wrapA_eq]
  simp only [IntKind.wrap, IntKind.signed, IntKind.bits, Bool.false_and, Bool.false_eq_true, if_false]
  omega
theorem inc64 {i : Nat} (h : i + 1 < 2 ^ 63) : wrapA .i64 (addI (i : Int) 1) = ((i + 1 : Nat) : Int) := by
  rw [addI_eq, wrap64 (by omega) (by omega)]
  omega
theorem ltN (i j : Nat) : ltI (i : Int) (j : Int) = decide (i < j) := by
  rw [ltI_eq]
  by_cases h : i < j
  · simp [h]
  · simp [h]
theorem eqNN (i j : Nat) : eqI (i : Int) (j : Int) = decide (i = j) := by
  rw [eqI_eq]
  by_cases h : i = j
  · simp [h]
  · simp [h]; omega
theorem bool_tf (b : Bool) : b = true ∨ b = false := by cases b <;> simp
theorem rowsOk_all {sz : Nat} {xs : List (List AV)} (h : ∀ r ∈ xs, r.length = sz) : rowsOk sz xs = true := by
  cases xs with
  | nil => rfl
  | cons r rs => simp [rowsOk, h r (by simp)]
end Go.Cb
