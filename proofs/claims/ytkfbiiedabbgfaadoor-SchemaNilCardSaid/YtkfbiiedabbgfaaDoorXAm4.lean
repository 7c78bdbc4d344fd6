/-
  THE ABSTRACT MACHINE, part 4: when an abstract operation is one of the model's; each that only reckons is matched by the model's.
-/
import Derived.Test.YtkfbiiedabbgfaaDoorXAm3
namespace Go.Cb

/-! reckoning out first changes nothing -/
@[simp] theorem fN_eq {α : Type} (m : Nat) (k : Nat → α) : fN m k = k m := by cases m <;> rfl
@[simp] theorem fI_eq {α : Type} (n : Int) (k : Int → α) : fI n k = k n := by cases n <;> simp [fI]
@[simp] theorem fL_eq {α β : Type} (l : List α) (k : List α → β) : fL l k = k l := by
  induction l generalizing k with
  | nil => rfl
  | cons a l ih => simp [fL, ih]
@[simp] theorem fLN_eq {β : Type} (l : List Nat) (k : List Nat → β) : fLN l k = k l := by
  induction l generalizing k with
  | nil => rfl
  | cons a l ih => simp [fLN, ih]
@[simp] theorem fV_eq {α : Type} (v : AV) (k : AV → α) : fV v k = k v := by
  cases v <;> first | rfl | (rename_i b; cases b <;> rfl) | (rename_i b _; cases b <;> rfl)
@[simp] theorem fNew_eq {α : Type} (v : AV) (k : AV → α) : fNew v k = k v := by
  cases v <;> simp [fNew]
theorem readAll_eq {α : Type} (xs : List Opd) (σ : Sig) (k : List AV → α) : readAll xs σ k = k (xs.map (·.read σ)) := by
  induction xs generalizing k with
  | nil => rfl
  | cons x xs ih => simp [readAll, ih]

theorem goOp_eq (call : CallT) (o : AOper) (σ : Sig) : goOp call o σ =
    match sem o.kind call (o.args.map (·.read σ)) (match o.box with | some i => σ.fr.getD i .undef | none => .undef) σ.st with
    | some (r, bx, st) =>
      let σ := spendAll o.args σ
      match o.box with
      | some i => some (o.dst.put r { σ with fr := σ.fr.set i bx, st })
      | none => some (o.dst.put r { σ with st })
    | none => none := by
  unfold goOp
  rw [readAll_eq]
  cases sem o.kind call (o.args.map (·.read σ)) (match o.box with | some i => σ.fr.getD i .undef | none => .undef) σ.st with
  | none => rfl
  | some x =>
    obtain ⟨r, bx, st⟩ := x
    dsimp only
    have e1 : ∀ {α : Type} (k : AV → α), (if o.kind.fresh = true then fNew r else fV r) k = k r := fun k => by split <;> simp
    have e2 : ∀ {α : Type} (k : AV → α), (if o.kind.alters = true then fNew bx else fV bx) k = k bx := fun k => by split <;> simp
    rw [e1]
    cases o.box with
    | none => rfl
    | some i => dsimp only; rw [e2]

/-! the checker -/
structure Cx where
  P : Program
  slots : List Nat
  bxs : List Nat
  nt : Nat
  gt : List (Nat × List AV)
  A : Nat → Prop

def strsEq : List AV → List AV → Bool
  | [], [] => true
  | .str a :: x, .str b :: y => a == b && strsEq x y
  | _, _ => false

def constOK : Value → AV → Bool
  | .bool b, .bool c => b == c
  | .int k n, .int k' m => decide (k = k') && decide (n = m)
  | .string s, .str l => s.data.toList.map UInt8.toNat == l
  | .slice none 0 0, .list true [] => true
  | .pointer none, .nilp => true
  | .map none, .nilm => true
  | .nilFunc, .nilf => true
  | .nilIface, .nili => true
  | _, _ => false

def constsOK : List Value → List AV → Bool
  | [], [] => true
  | v :: vs, a :: as => constOK v a && constsOK vs as
  | _, _ => false

section
variable (c : Cx)

def tmpOK (s : Nat) : Bool := !c.slots.contains s

def opdOK (x : Operand) (p : Opd) : Bool :=
  match x, p with
  | .tmp s, .t s' => s == s' && !c.slots.contains s
  | .tmp s, .ts s' => s == s' && !c.slots.contains s
  | .tmp s, .v i => c.slots[i]? == some s
  | .tmp s, .vs i => c.slots[i]? == some s
  | .tmp s, .l i => c.slots[i]? == some s
  | .const v, .c a => constOK v a
  | .func f, .c (.func f' [] []) => f == f'
  | .global g, .c (.ro cs) => c.gt.any fun e => e.1 == g && strsEq e.2 cs
  | _, _ => false

def Opd.steals : Opd → Bool
  | .ts _ | .vs _ => true
  | _ => false

def opdN (x : Operand) (p : Opd) : Bool := opdOK c x p && !p.steals

def opdsN : List Operand → List Opd → Bool
  | [], [] => true
  | x :: xs, p :: ps => opdN c x p && opdsN xs ps
  | _, _ => false

def dstOK (d : Option Tmp) (p : Dst) : Bool :=
  match d, p with
  | none, .none => true
  | some s, .t s' => s == s' && !c.slots.contains s && decide (s < c.nt)
  | some s, .v i => c.slots[i]? == some s && !c.bxs.contains i
  | _, _ => false

def isAggB (t : TypeId) : Option Bool :=
  match c.P.underlying t with
  | some (.struct _) | some (.array _ _) => some true
  | some _ => some false
  | none => none

def sizeB (t : TypeId) : Option Nat := (c.P.info? t).map (·.size)

def fieldOf (t : TypeId) (f : Nat) : Option Field :=
  match c.P.underlying t with
  | some (.struct fs) => fs[f]?
  | _ => none
end
end Go.Cb
