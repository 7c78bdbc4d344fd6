import Derived.Test.YtpalalebligmoaaGreatDoorChA
import Derived.Test.YtpalalebligmoaaGreatDoorXAms3
set_option maxRecDepth 20000
set_option linter.unusedSimpArgs false
set_option linter.unusedVariables false
namespace Go.Cb.CodeA
open Go Go.Cb
attribute [local congr] obind_congr gv_congr2 gv2_congr brT_congr seqK_congr blkK_congr m1_congr gm_congr

theorem eqN_refl (n : List Nat) : eqN n n = true := by rw [eqN_eq]; simp
theorem eqI_refl (n : Int) : eqI n n = true := by rw [eqI_eq]; simp
theorem eqN_false (a b : List Nat) : eqN a b = false ↔ a ≠ b := by rw [eqN_eq]; simp
/-- a value -/
inductive Val where
  | mk (k n : Int) (s : List Nat) (ks : List (List Nat)) (ls : List Val)
def strRow (x : List Nat) : List AV := [.str x]
mutual
def Val.row : Val → List AV
  | .mk k n s ks ls => [.int .u8 k, .int .i64 n, .str s, .list false (ks.map strRow), .list false (Val.rows ls)]
def Val.rows : List Val → List (List AV)
  | [] => []
  | v :: vs => v.row :: Val.rows vs
end
theorem Val.rows_map : ∀ vs : List Val, Val.rows vs = vs.map Val.row
  | [] => by simp [Val.rows]
  | v :: vs => by simp [Val.rows, Val.rows_map vs]
/-- a value with no more names or values than a slice may have -/
inductive Val.Fin : Val → Prop
  | mk (k n : Int) (s : List Nat) (ks : List (List Nat)) (ls : List Val) (hk : ks.length < 2 ^ 63) (hl : ls.length < 2 ^ 63) (h : ∀ v ∈ ls, Val.Fin v) : Val.Fin (.mk k n s ks ls)
theorem Val.row_eq (k n : Int) (s : List Nat) (ks : List (List Nat)) (ls : List Val) : (Val.mk k n s ks ls).row = [.int .u8 k, .int .i64 n, .str s, .list false (ks.map strRow), .list false (ls.map Val.row)] := by
  rw [Val.row, Val.rows_map]
theorem Val.row_cells (v : Val) : ∃ k n s xs ys, v.row = [.int .u8 k, .int .i64 n, .str s, .list false xs, .list false ys] := by
  cases v; exact ⟨_, _, _, _, _, Val.row_eq _ _ _ _ _⟩
theorem val_at {ls : List Val} {i : Nat} (h : i < ls.length) : (ls.map Val.row)[i]? = some (ls[i]).row := by
  rw [List.getElem?_map, List.getElem?_eq_getElem h]; rfl
theorem str_at {ks : List (List Nat)} {i : Nat} (h : i < ks.length) : (ks.map strRow)[i]? = some [.str ks[i]] := by
  rw [List.getElem?_map, List.getElem?_eq_getElem h]; rfl

/-- a value whose parts are few -/
inductive Val.Sized : Val → Prop
  | mk (k n : Int) (s : List Nat) (ks : List (List Nat)) (ls : List Val) (hk : ks.length ≤ 3000) (hl : ls.length ≤ 3000) (h : ∀ v ∈ ls, Val.Sized v) : Val.Sized (.mk k n s ks ls)
/-- a value that has as many names as values, and so on -/
inductive Val.Even : Val → Prop
  | mk (k n : Int) (s : List Nat) (ks : List (List Nat)) (ls : List Val) (he : k = 6 → ks.length = ls.length) (h : ∀ v ∈ ls, Val.Even v) : Val.Even (.mk k n s ks ls)
end Go.Cb.CodeA
