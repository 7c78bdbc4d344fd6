import Derived.Test.YtpalalebligmoaaGreatDoorV1
set_option maxRecDepth 20000
set_option linter.unusedSimpArgs false
set_option linter.unusedVariables false
namespace Go.Cb.CodeA
open Go Go.Cb

abbrev CRes := Val × Bool × Int
def Val.kind : Val → Int | .mk k _ _ _ _ => k
def Val.num : Val → Int | .mk _ n _ _ _ => n
def Val.text : Val → List Nat | .mk _ _ s _ _ => s
def Val.names : Val → List (List Nat) | .mk _ _ _ ks _ => ks
def Val.vals : Val → List Val | .mk _ _ _ _ ls => ls
def Val.inR (v : Val) : Prop := -9223372036854775808 ≤ v.num ∧ v.num ≤ 9223372036854775807
/-- its numbers are numbers of their kind -/
inductive Val.Rng : Val → Prop
  | mk (k n : Int) (s : List Nat) (ks : List (List Nat)) (ls : List Val) (hn : -9223372036854775808 ≤ n ∧ n ≤ 9223372036854775807) (h : ∀ v ∈ ls, Val.Rng v) : Val.Rng (.mk k n s ks ls)
structure Val.Ok (v : Val) : Prop where
  sized : v.Sized
  even : v.Even
  rng : v.Rng
theorem Val.Sized.fin {v : Val} (h : v.Sized) : v.Fin := by
  induction h with
  | mk k n s ks ls hk hl h ih => exact .mk _ _ _ _ _ (by omega) (by omega) ih
theorem Val.Ok.fin {v : Val} (h : v.Ok) : v.Fin := h.sized.fin
theorem Val.Ok.inR {v : Val} (h : v.Ok) : v.inR := by
  have := h.rng
  cases this with | mk k n s ks ls hn h => exact hn
theorem Val.Ok.len {v : Val} (h : v.Ok) : v.names.length ≤ 3000 ∧ v.vals.length ≤ 3000 := by
  have := h.sized
  cases this with | mk k n s ks ls hk hl h => exact ⟨hk, hl⟩
theorem Val.Ok.ev {v : Val} (h : v.Ok) : v.kind = 6 → v.names.length = v.vals.length := by
  have := h.even
  cases this with | mk k n s ks ls he h => exact he
theorem Val.Ok.sub {v : Val} (h : v.Ok) : ∀ u ∈ v.vals, u.Ok := fun u hu => by
  obtain ⟨h1, h2, h3⟩ := h
  cases h1 with | mk k n s ks ls hk hl h1 => cases h2 with | mk _ _ _ _ _ he h2 => cases h3 with | mk _ _ _ _ _ hn h3 => exact ⟨h1 u hu, h2 u hu, h3 u hu⟩
theorem Val.Ok.of {k n : Int} {s : List Nat} {ks : List (List Nat)} {ls : List Val} (hk : ks.length ≤ 3000) (hl : ls.length ≤ 3000) (he : k = 6 → ks.length = ls.length) (hn : -9223372036854775808 ≤ n ∧ n ≤ 9223372036854775807) (h : ∀ v ∈ ls, v.Ok) : (Val.mk k n s ks ls).Ok :=
  ⟨.mk _ _ _ _ _ hk hl fun v hv => (h v hv).sized, .mk _ _ _ _ _ he fun v hv => (h v hv).even, .mk _ _ _ _ _ hn fun v hv => (h v hv).rng⟩
theorem Val.Ok.none : Val.none.Ok := .of (by decide) (by decide) (by decide) (by decide) (by simp)
theorem Val.row_eta (v : Val) : v.row = [.int .u8 v.kind, .int .i64 v.num, .str v.text, .list false (v.names.map strRow), .list false (v.vals.map Val.row)] := by
  cases v; exact Val.row_eq _ _ _ _ _
theorem Val.row_len (v : Val) : v.row.length = 5 := by rw [Val.row_eta]; rfl
/-- a type as it is written -/
inductive Ty where
  | one (n : List Nat) (b : Bool)
  | lst (n : List Nat) (t : Ty) (b : Bool)
def Ty.row : Ty → List AV
  | .one n b => [.str n, .list false [], .bool b]
  | .lst n t b => [.str n, .list false [t.row], .bool b]
def Ty.bang : Ty → Bool
  | .one _ b => b
  | .lst _ _ b => b
def Ty.name : Ty → List Nat
  | .one n _ => n
  | .lst n _ _ => n
def Ty.of : Ty → List (List AV)
  | .one _ _ => []
  | .lst _ t _ => [t.row]
def Ty.leaf : Ty → List Nat
  | .one n _ => n
  | .lst _ t _ => t.leaf
theorem Ty.row_eta (t : Ty) : t.row = [.str t.name, .list false t.of, .bool t.bang] := by cases t <;> rfl
def cErr (e : Int) : CRes := (Val.none, false, e)
def ansR (r : CRes) : AV := .tuple [.agg r.1.row, .bool r.2.1, .int .i64 r.2.2]
def preF (p b : Bool) (v : Val) (r : CRes) : CRes :=
  if eqI v.kind 7 && !p then cErr 0 else if eqI v.kind 0 then (if b then cErr 9 else (v, true, 0)) else r
def listG (f : Val → CRes) (bang : Bool) : List Val → List Val → CRes
  | [], acc => (.mk 5 0 [] [] acc, true, 0)
  | x :: xs, acc => if eqI (f x).2.2 0 then (if (f x).2.1 then listG f bang xs (acc ++ [(f x).1]) else if bang then cErr 9 else listG f bang xs (acc ++ [Val.none])) else cErr (f x).2.2
def listF (f : Val → CRes) (bang : Bool) (v : Val) : CRes := listG f bang (if eqI v.kind 5 then v.vals else [v]) []
def valueF (p : Bool) (N : List Nat → Val → CRes) : Ty → Val → CRes
  | .one n b, v => preF p b v (N n v)
  | .lst n t b, v => preF p b v (listF (valueF p N t) t.bang v)
def Cc (p : Bool) : List AV := [.ptr 14 0, .int .u8 0, .int .i64 0, .str [], .list false [], .list false [], .bool p]
end Go.Cb.CodeA
