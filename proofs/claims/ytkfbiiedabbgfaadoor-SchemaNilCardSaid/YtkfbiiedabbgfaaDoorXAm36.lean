/-
  THE ABSTRACT MACHINE, part 36: guarded values, reckoned without splitting; copies, form by form; tests as rules.
-/
import Derived.Test.YtkfbiiedabbgfaaDoorXAm35
set_option maxRecDepth 4000
set_option linter.unusedVariables false
namespace Go.Cb
open Classical

/-- a value that is there where its guard is so -/
def gV (x : AV) (want : Bool) (v : AV) : AV := match x with
  | .bool b => if b == want then v else .tuple []
  | _ => .tuple []
theorem gV_tt (v : AV) : gV (.bool true) true v = v := spine rfl
theorem gV_ff (v : AV) : gV (.bool false) false v = v := spine rfl
theorem gV_tf (v : AV) : gV (.bool true) false v = .tuple [] := spine rfl
theorem gV_ft (v : AV) : gV (.bool false) true v = .tuple [] := spine rfl
theorem gV_none (want : Bool) (v : AV) : gV (.tuple []) want v = .tuple [] := spine rfl
theorem gv_some (c want : Bool) (v : AV) : gv (.bool c) want (some v) = some (gV (.bool c) want v) := by
  cases c <;> cases want <;> rfl
theorem gv_some2 (x : AV) (w b want : Bool) (v : AV) : gv (gV x w (.bool b)) want (some v) = some (gV (gV x w (.bool b)) want v) := by
  unfold gV
  cases x with
  | bool c => cases c <;> cases w <;> cases b <;> cases want <;> rfl
  | _ => rfl
theorem gv_congr2 {x x' : AV} {want : Bool} {e e' : Option AV} (h1 : x = x') (h2 : x' = .bool want → e = e') : gv x want e = gv x' want e' := by
  subst h1
  unfold gv
  split
  · rename_i b
    by_cases hb : b = want
    · rw [h2 (by rw [hb])]
    · simp [hb]
  · rfl
  · rfl
theorem weak_gV (x : AV) (w : Bool) (v : AV) : (gV x w v).weak = gV x w v.weak := by
  unfold gV
  cases x with
  | bool c => dsimp only; split <;> rfl
  | _ => rfl
theorem strip_gV (x : AV) (w : Bool) (v : AV) : (gV x w v).strip = gV x w v.strip := by
  unfold gV
  cases x with
  | bool c => dsimp only; split <;> rfl
  | _ => rfl
theorem stripB_gV (x : AV) (w : Bool) (v : AV) : (gV x w v).stripB = gV x w v.stripB := by
  unfold gV
  cases x with
  | bool c => dsimp only; split <;> rfl
  | _ => rfl
theorem gV_same (x : AV) (w : Bool) (v : AV) : gV x w (gV x w v) = gV x w v := by
  unfold gV
  cases x with
  | bool c => dsimp only; split <;> rfl
  | _ => rfl

theorem pick_t (call : CallT) (a b bx : AV) (st : St) : p1 (semPick call [.bool true, a, b] bx st) = if a.plain then some a else none := by
  unfold semPick; dsimp only; by_cases h : a.plain = true <;> simp [h, p1]
theorem pick_f (call : CallT) (a b bx : AV) (st : St) : p1 (semPick call [.bool false, a, b] bx st) = if b.plain then some b else none := by
  unfold semPick; dsimp only; by_cases h : b.plain = true <;> simp [h, p1]
theorem pick_or (call : CallT) (c d : Bool) (bx : AV) (st : St) : p1 (semPick call [.bool c, .bool true, gV (.bool c) false (.bool d)] bx st) = some (.bool (c || d)) := by
  cases c <;> rfl
theorem pick_and (call : CallT) (c d : Bool) (bx : AV) (st : St) : p1 (semPick call [.bool c, gV (.bool c) true (.bool d), .bool false] bx st) = some (.bool (c && d)) := by
  cases c <;> rfl

theorem weak_bool (b : Bool) : (AV.bool b).weak = .bool b := spine rfl
theorem weak_int (k : IntKind) (n : Int) : (AV.int k n).weak = .int k n := spine rfl
theorem weak_str (s : List Nat) : (AV.str s).weak = .str s := spine rfl
theorem weak_list (o : Bool) (xs : List (List AV)) : (AV.list o xs).weak = .list false xs := spine rfl
theorem weak_ptr (o f : Nat) : (AV.ptr o f).weak = .ptr o f := spine rfl
theorem weak_nilp : AV.nilp.weak = .nilp := spine rfl
theorem weak_ro (cs : List AV) : (AV.ro cs).weak = .ro cs := spine rfl
theorem weak_loc (i f : Nat) : (AV.loc i f).weak = .loc i f := spine rfl
theorem weak_map (o : Nat) : (AV.map o).weak = .map o := spine rfl
theorem weak_nilm : AV.nilm.weak = .nilm := spine rfl
theorem weak_func (f : Nat) (a b : List AV) : (AV.func f a b).weak = .func f a b := spine rfl
theorem weak_nilf : AV.nilf.weak = .nilf := spine rfl
theorem weak_agg (cs : List AV) : (AV.agg cs).weak = .agg (cs.map AV.weak1) := spine rfl
theorem weak_tuple (vs : List AV) : (AV.tuple vs).weak = .tuple vs := spine rfl
theorem weak_undef : AV.undef.weak = .undef := spine rfl
theorem weak_box (cs : List AV) : (AV.box cs).weak = .box cs := spine rfl
theorem weak1_bool (b : Bool) : (AV.bool b).weak1 = .bool b := spine rfl
theorem weak1_int (k : IntKind) (n : Int) : (AV.int k n).weak1 = .int k n := spine rfl
theorem weak1_str (s : List Nat) : (AV.str s).weak1 = .str s := spine rfl
theorem weak1_list (o : Bool) (xs : List (List AV)) : (AV.list o xs).weak1 = .list false xs := spine rfl
theorem weak1_ptr (o f : Nat) : (AV.ptr o f).weak1 = .ptr o f := spine rfl
theorem weak1_nilp : AV.nilp.weak1 = .nilp := spine rfl
theorem weak1_map (o : Nat) : (AV.map o).weak1 = .map o := spine rfl
theorem weak1_nilm : AV.nilm.weak1 = .nilm := spine rfl
theorem strip_bool (b : Bool) : (AV.bool b).strip = .bool b := spine rfl
theorem strip_int (k : IntKind) (n : Int) : (AV.int k n).strip = .int k n := spine rfl
theorem strip_str (s : List Nat) : (AV.str s).strip = .str s := spine rfl
theorem strip_list (o : Bool) (xs : List (List AV)) : (AV.list o xs).strip = .list o xs := spine rfl
theorem strip_ptr (o f : Nat) : (AV.ptr o f).strip = .ptr o f := spine rfl
theorem strip_nilp : AV.nilp.strip = .nilp := spine rfl
theorem strip_ro (cs : List AV) : (AV.ro cs).strip = .ro cs := spine rfl
theorem strip_loc (i f : Nat) : (AV.loc i f).strip = .undef := spine rfl
theorem strip_map (o : Nat) : (AV.map o).strip = .map o := spine rfl
theorem strip_nilm : AV.nilm.strip = .nilm := spine rfl
theorem strip_func (f : Nat) (a b : List AV) : (AV.func f a b).strip = .func f a b := spine rfl
theorem strip_nilf : AV.nilf.strip = .nilf := spine rfl
theorem strip_agg (cs : List AV) : (AV.agg cs).strip = .agg cs := spine rfl
theorem strip_tuple (vs : List AV) : (AV.tuple vs).strip = .tuple vs := spine rfl
theorem strip_undef : AV.undef.strip = .undef := spine rfl
theorem stripB_bool (b : Bool) : (AV.bool b).stripB = .bool b := spine rfl
theorem stripB_int (k : IntKind) (n : Int) : (AV.int k n).stripB = .int k n := spine rfl
theorem stripB_str (s : List Nat) : (AV.str s).stripB = .str s := spine rfl
theorem stripB_list (o : Bool) (xs : List (List AV)) : (AV.list o xs).stripB = .list o xs := spine rfl
theorem stripB_ptr (o f : Nat) : (AV.ptr o f).stripB = .ptr o f := spine rfl
theorem stripB_nilp : AV.nilp.stripB = .nilp := spine rfl
theorem stripB_ro (cs : List AV) : (AV.ro cs).stripB = .ro cs := spine rfl
theorem stripB_loc (i f : Nat) : (AV.loc i f).stripB = .loc i f := spine rfl
theorem stripB_map (o : Nat) : (AV.map o).stripB = .map o := spine rfl
theorem stripB_nilm : AV.nilm.stripB = .nilm := spine rfl
theorem stripB_func (f : Nat) (a b : List AV) : (AV.func f a b).stripB = .func f a b := spine rfl
theorem stripB_nilf : AV.nilf.stripB = .nilf := spine rfl
theorem stripB_agg (cs : List AV) : (AV.agg cs).stripB = .agg cs := spine rfl
theorem stripB_tuple (vs : List AV) : (AV.tuple vs).stripB = .tuple vs := spine rfl
theorem stripB_undef : AV.undef.stripB = .undef := spine rfl

/-! what comes behind, as constants that wait: nothing of it is reckoned ahead of its time -/
def seqC {α : Type} (K : α → Option Out) (g : List AV → St → Option Out) (a : α) : Option Out := Go.Cb.seqK (K a) g
def blkC {α : Type} (id : Nat) (K : α → Option Out) (a : α) : Option Out := Go.Cb.blkK id (K a)
theorem seqC_x {α : Type} (K : α → Option Out) (g : List AV → St → Option Out) (a : α) : seqC K g a = Go.Cb.seqK (K a) g := spine rfl
theorem blkC_x {α : Type} (id : Nat) (K : α → Option Out) (a : α) : blkC id K a = Go.Cb.blkK id (K a) := spine rfl
theorem seqK_obindC {α : Type} (x : Option α) (f : α → Option Out) (g : List AV → St → Option Out) : Go.Cb.seqK (Go.Cb.obind x f) g = Go.Cb.obind x (seqC f g) := by cases x <;> rfl
theorem blkK_obindC {α : Type} (id : Nat) (x : Option α) (f : α → Option Out) : Go.Cb.blkK id (Go.Cb.obind x f) = Go.Cb.obind x (blkC id f) := by cases x <;> rfl

def exeT (call : CallT) (n : Nat) (a : ACode) (fr : List AV) (st : St) (_ : Unit) : Option Out := exec call n a fr st
def seqT (A : Unit → Option Out) (g : List AV → St → Option Out) (u : Unit) : Option Out := Go.Cb.seqK (A u) g
def blkT (id : Nat) (A : Unit → Option Out) (u : Unit) : Option Out := Go.Cb.blkK id (A u)
theorem exeT_x (call : CallT) (n : Nat) (a : ACode) (fr : List AV) (st : St) (u : Unit) : exeT call n a fr st u = exec call n a fr st := spine rfl
theorem seqT_x (A : Unit → Option Out) (g : List AV → St → Option Out) (u : Unit) : seqT A g u = Go.Cb.seqK (A u) g := spine rfl
theorem blkT_x (id : Nat) (A : Unit → Option Out) (u : Unit) : blkT id A u = Go.Cb.blkK id (A u) := spine rfl
def brT (c : AV) (A B : Unit → Option Out) : Option Out := match c with
  | .bool true => A ()
  | .bool false => B ()
  | _ => none
theorem brT_true (A B : Unit → Option Out) : brT (.bool true) A B = A () := spine rfl
theorem brT_false (A B : Unit → Option Out) : brT (.bool false) A B = B () := spine rfl
theorem brT_congr {c c' : AV} {A B : Unit → Option Out} (h : c = c') : brT c A B = brT c' A B := by rw [h]
theorem seqK_brT (c : AV) (A B : Unit → Option Out) (g : List AV → St → Option Out) : Go.Cb.seqK (brT c A B) g = brT c (seqT A g) (seqT B g) := by
  cases c <;> try rfl
  rename_i b; cases b <;> rfl
theorem blkK_brT (id : Nat) (c : AV) (A B : Unit → Option Out) : Go.Cb.blkK id (brT c A B) = brT c (blkT id A) (blkT id B) := by
  cases c <;> try rfl
  rename_i b; cases b <;> rfl
theorem br_brT (call : CallT) (n : Nat) (c : AV) (a b : ACode) (fr : List AV) (st : St) : Go.Cb.br c (exec call n a fr st) (exec call n b fr st) = brT c (exeT call n a fr st) (exeT call n b fr st) := by
  cases c <;> try rfl
theorem exec_testT (call : CallT) (n : Nat) (kill : List Nat) (ps : List AOper) (c : Opd) (a b : ACode) (fr : List AV) (st : St) :
    exec call n (.test kill ps c a b) fr st = runK call ps ⟨killAll kill fr, fun _ => .undef, st⟩ fun σ => brT (c.read σ) (exeT call n a σ.fr σ.st) (exeT call n b σ.fr σ.st) := by
  rw [exec_test]
  simp only [br_brT]
def loopO (call : CallT) (n : Nat) (x : ACode) (fr : List AV) (st : St) : Option Out := exec call n (.loop x) fr st
theorem exec_loopO (call : CallT) (n : Nat) (x : ACode) (fr : List AV) (st : St) : exec call n (.loop x) fr st = Go.Cb.obind (loopO call n x fr st) some := by
  unfold loopO; cases exec call n (.loop x) fr st <;> rfl

theorem WC.br {c : Bool} {A B : Nat → Unit → Option Out} {Q : Out → Prop} (ht : c = true → WC (fun n => A n ()) Q) (hf : c = false → WC (fun n => B n ()) Q) : WC (fun n => brT (.bool c) (A n) (B n)) Q := by
  cases c with
  | true => exact ht rfl
  | false => exact hf rfl
/-- a loop, by what holds ahead of each round, and a number that falls; R: what holds behind it -/
theorem WC.loopR {tbl : Nat → Option AFn} {β : Type} {x : ACode} {K : Nat → Out → Option β} {Q : β → Prop} (I : Nat → List AV → St → Prop) {m : Nat} {fr : List AV} {st : St} (h0 : I m fr st)
    (hI : ∀ m fr st, I m fr st → WC (fun n => exec (callF tbl n) n x fr st) (fun o => (∃ m' fr' st', o = (.normal, fr', st') ∧ m' < m ∧ I m' fr' st') ∨ (o.1 ≠ .normal ∧ WC (fun n => K n o) Q))) :
    WC (fun n => Go.Cb.obind (loopO (callF tbl n) n x fr st) (K n)) Q := WC.obind (WC.loop I h0 hI) fun _ ho => ho
theorem WC.g2 {β : Type} {c want : Bool} {st : St} {E : Nat → Option (AV × St)} {k : Nat → AV × St → Option β} {Q : β → Prop} (ht : c = want → WC (fun n => Go.Cb.obind (E n) (k n)) Q) (hf : c = !want → WC (fun n => k n (.tuple [], st)) Q) :
    WC (fun n => Go.Cb.obind (gv2 (.bool c) want st (E n)) (k n)) Q := by
  by_cases h : c = want
  · subst h
    have e : ∀ n, gv2 (.bool c) c st (E n) = E n := fun n => by cases c <;> rfl
    simp only [e]
    exact ht rfl
  · have h' : c = !want := by cases c <;> cases want <;> simp_all
    have e : ∀ n, gv2 (.bool c) want st (E n) = some (.tuple [], st) := fun n => by subst h'; cases want <;> rfl
    simp only [e, obind_some]
    exact hf h'
theorem gv2_congr2 {x x' : AV} {want : Bool} {st : St} {e e' : Option (AV × St)} (h1 : x = x') (h2 : x' = .bool want → e = e') : gv2 x want st e = gv2 x' want st e' := by
  subst h1
  unfold gv2
  split
  · rename_i b
    by_cases hb : b = want
    · rw [h2 (by rw [hb])]
    · simp [hb]
  · rfl
  · rfl
end Go.Cb
