import Derived.Test.YthnliekianmljaaGreatDoorQs1
set_option maxRecDepth 20000
set_option linter.unusedSimpArgs false
set_option linter.unusedVariables false
namespace Go.Cb.CodeA
open Go Go.Cb
variable {B : St}

/-! ways of a plain reader, one behind the other -/
def bindP {α β : Type} (p : Option (α × Nat)) (k : α → Nat → Option β) : Option β := match p with
 | some (x, i) => k x i
 | none => none
theorem bind_if {α β : Type} {p : Option (α × Nat)} {k : α → Nat → Option β} {e1 e2 : Int} {x : α} {i1 : Nat} {y : β} (h1 : p = if e1 = 0 then some (x, i1) else none) (h3 : e2 = 0 → e1 = 0) (h2 : e1 = 0 → k x i1 = if e2 = 0 then some y else none) : bindP p k = if e2 = 0 then some y else none := by
 by_cases h : e1 = 0
 · rw [h1, if_pos h]; exact h2 h
 · rw [h1, if_neg h, if_neg (fun h' => h (h3 h'))]; rfl
/-- past a sign, without a value -/
def thenP {β : Type} (p : Option Nat) (k : Nat → Option β) : Option β := match p with
 | some i => k i
 | none => none
theorem then_if {β : Type} {p : Option Nat} {k : Nat → Option β} {e1 e2 : Int} {i1 : Nat} {y : β} (h1 : p = if e1 = 0 then some i1 else none) (h3 : e2 = 0 → e1 = 0) (h2 : e1 = 0 → k i1 = if e2 = 0 then some y else none) : thenP p k = if e2 = 0 then some y else none := by
 by_cases h : e1 = 0
 · rw [h1, if_pos h]; exact h2 h
 · rw [h1, if_neg h, if_neg (fun h' => h (h3 h'))]; rfl
theorem bind_some {α β : Type} {p : Option (α × Nat)} {k : α → Nat → Option β} {y : β} (h : bindP p k = some y) : ∃ x i, p = some (x, i) ∧ k x i = some y := by
 cases p with
 | none => cases h
 | some q => exact ⟨q.1, q.2, rfl, h⟩
structure Arg where
 n : List Nat
 v : Val
def Arg.row (a : Arg) : List AV := .str a.n :: a.v.row
structure Dir where
 n : List Nat
 as : List Arg
def Dir.row (d : Dir) : List AV := [.str d.n, .list false (d.as.map Arg.row)]
/-- a selection -/
inductive Sel where
 | mk (k : Int) (al nm on : List Nat) (as : List Arg) (ds : List Dir) (sub : List Sel)
mutual
def Sel.row : Sel → List AV
 | .mk k al nm on as ds sub => [.int .u8 k, .str al, .str nm, .str on, .list false (as.map Arg.row), .list false (ds.map Dir.row), .list false (Sel.rows sub)]
def Sel.rows : List Sel → List (List AV)
 | [] => []
 | s :: l => s.row :: Sel.rows l
end
theorem Sel.rows_map : ∀ l : List Sel, Sel.rows l = l.map Sel.row
 | [] => by simp [Sel.rows]
 | s :: l => by simp [Sel.rows, Sel.rows_map l]
theorem Sel.row_eq (k : Int) (al nm on : List Nat) (as : List Arg) (ds : List Dir) (sub : List Sel) : (Sel.mk k al nm on as ds sub).row = [.int .u8 k, .str al, .str nm, .str on, .list false (as.map Arg.row), .list false (ds.map Dir.row), .list false (sub.map Sel.row)] := by
 rw [Sel.row, Sel.rows_map]
def ArgsOK (l : List Arg) : Prop := l.length ≤ 3000 ∧ ∀ a ∈ l, a.v.OK
def DirsOK (l : List Dir) : Prop := l.length ≤ 3000 ∧ ∀ d ∈ l, ArgsOK d.as
inductive Sel.OK : Sel → Prop
 | mk (k : Int) (al nm on : List Nat) (as : List Arg) (ds : List Dir) (sub : List Sel) (ha : ArgsOK as) (hd : DirsOK ds) (hl : sub.length ≤ 3000) (h : ∀ s ∈ sub, Sel.OK s) : Sel.OK (.mk k al nm on as ds sub)
theorem Arg.row_len (a : Arg) : a.row.length = 6 := by
 obtain ⟨_, _, _, _, _, e⟩ := a.v.row_cells
 rw [Arg.row, e]; rfl
theorem Sel.row_len (s : Sel) : s.row.length = 7 := by
 cases s; rw [Sel.row_eq]; rfl
theorem rowsArg (l : List Arg) : rowsOk 6 (l.map Arg.row) = true := rowsOk_all (by
 intro r hr
 obtain ⟨v, _, rfl⟩ := List.mem_map.1 hr
 exact v.row_len)
theorem rowsDir (l : List Dir) : rowsOk 2 (l.map Dir.row) = true := rowsOk_all (by
 intro r hr
 obtain ⟨v, _, rfl⟩ := List.mem_map.1 hr
 rfl)
theorem rowsSel (l : List Sel) : rowsOk 7 (l.map Sel.row) = true := rowsOk_all (by
 intro r hr
 obtain ⟨v, _, rfl⟩ := List.mem_map.1 hr
 exact v.row_len)
theorem argsOK_nil : ArgsOK [] := ⟨by simp, by simp⟩
/-! the plain readers -/
def argStep (L : List Tok) (f i : Nat) (x : Bool × List Arg) : Option (Bool × Nat × (Bool × List Arg)) :=
 if !x.1 && eatB L i [41] then some (true, i + 1, x) else bindP (nameP L i) fun n i => thenP (mustP L [58] i) fun i => bindP (valueP L false f i) fun v j => some (false, j, (false, x.2 ++ [⟨n, v⟩]))
def argsP (L : List Tok) (f i : Nat) : Option (List Arg × Nat) := if eatB L i [40] then bindP (loopP (argStep L f) 2002 (i + 1) (true, [])) fun x j => some (x.2, j) else some ([], i)
def dirStep (L : List Tok) (f i : Nat) (l : List Dir) : Option (Bool × Nat × List Dir) :=
 if eatB L i [64] then bindP (nameP L (i + 1)) fun n i => bindP (argsP L f i) fun as j => some (false, j, l ++ [⟨n, as⟩]) else some (true, i, l)
def dirsP (L : List Tok) (f i : Nat) : Option (List Dir × Nat) := loopP (dirStep L f) 2002 i []
def aliasP (L : List Tok) (i : Nat) (n : List Nat) : Option ((List Nat × List Nat) × Nat) := if eatB L i [58] then bindP (nameP L (i + 1)) fun m j => some ((n, m), j) else some (([], n), i)
def fieldP (L : List Tok) (f : Nat) (sP : Nat → Option (List Sel × Nat)) (i : Nat) : Option (Sel × Nat) :=
 bindP (nameP L i) fun n i => bindP (aliasP L i n) fun x i => bindP (argsP L f i) fun as i => bindP (dirsP L f i) fun ds i =>
  if signB L i [123] then bindP (sP i) fun sub j => some (.mk 1 x.1 x.2 [] as ds sub, j) else some (.mk 1 x.1 x.2 [] as ds [], i)
def inlP (L : List Tok) (f : Nat) (sP : Nat → Option (List Sel × Nat)) (on : List Nat) (i : Nat) : Option (Sel × Nat) := bindP (dirsP L f i) fun ds i => bindP (sP i) fun sub j => some (.mk 3 [] [] on [] ds sub, j)
def selP (L : List Tok) (f : Nat) (sP : Nat → Option (List Sel × Nat)) (i : Nat) : Option (Sel × Nat) :=
 if eatB L i [46, 46, 46] then (if eatB L (i + 1) [111, 110] then bindP (nameP L (i + 1 + 1)) fun on i => inlP L f sP on i
  else if kindB' L (i + 1) 1 then bindP (nameP L (i + 1)) fun n i => bindP (dirsP L f i) fun ds j => some (.mk 2 [] n [] [] ds [], j)
  else inlP L f sP [] (i + 1))
 else fieldP L f sP i
def setStep (L : List Tok) (p : Nat → Option (Sel × Nat)) (i : Nat) (l : List Sel) : Option (Bool × Nat × List Sel) := bindP (p i) fun x j => if eatB L j [125] then some (true, j + 1, l ++ [x]) else some (false, j, l ++ [x])
def setP (L : List Tok) : Nat → Nat → Option (List Sel × Nat)
 | 0, _ => none
 | f + 1, i => thenP (mustP L [123] i) fun i => loopP (setStep L (selP L f (setP L f))) 2002 i []
structure VDef where
 n : List Nat
 t : TRef
 has : Bool
 v : Val
def VDef.row (d : VDef) : List AV := .str d.n :: (d.t.row ++ .bool d.has :: d.v.row)
structure Op where
 m : Bool
 n : List Nat
 vs : List VDef
 sub : List Sel
def Op.row (o : Op) : List AV := [.bool o.m, .str o.n, .list false (o.vs.map VDef.row), .list false (o.sub.map Sel.row)]
structure Frag where
 n : List Nat
 on : List Nat
 sub : List Sel
def Frag.row (f : Frag) : List AV := [.str f.n, .str f.on, .list false (f.sub.map Sel.row)]
structure Docm where
 ops : List Op
 frags : List Frag
def Docm.row (d : Docm) : List AV := [.list false (d.ops.map Op.row), .list false (d.frags.map Frag.row)]
def Val.none : Val := .mk 0 0 [] [] []
theorem Val.none_ok : Val.none.OK := (Val.simple 0 0 [] (by decide)).1
theorem Val.none_row : Val.none.row = [.int .u8 0, .int .i64 0, .str [], .list false [], .list false []] := (Val.simple 0 0 [] (by decide)).2
def varP (L : List Tok) (i : Nat) : Option (VDef × Nat) := thenP (mustP L [36] i) fun i => bindP (nameP L i) fun n i => thenP (mustP L [58] i) fun i => bindP (typeP L 24 i) fun t i =>
 if eatB L i [61] then bindP (valueP L true 24 (i + 1)) fun v j => some (⟨n, t, true, v⟩, j) else some (⟨n, t, false, Val.none⟩, i)
def varStep (L : List Tok) (i : Nat) (l : List VDef) : Option (Bool × Nat × List VDef) := if eatB L i [41] then some (true, i + 1, l) else bindP (varP L i) fun v j => some (false, j, l ++ [v])
def varsP (L : List Tok) (i : Nat) : Option (List VDef × Nat) := if eatB L i [40] then bindP (varP L (i + 1)) fun v i => loopP (varStep L) 2002 i [v] else some ([], i)
def onameP (L : List Tok) (i : Nat) : Option (List Nat × Nat) := if kindB' L i 1 then nameP L i else some ([], i)
def wordP (L : List Tok) (s : List Nat) (i : Nat) : Option Nat := if wordB L i s then some (i + 1) else none
def headP (L : List Tok) (i : Nat) : Option (Bool × Nat) := if eatB L i [109, 117, 116, 97, 116, 105, 111, 110] then some (true, i + 1) else thenP (wordP L [113, 117, 101, 114, 121] i) fun i => some (false, i)
def opP (L : List Tok) (i : Nat) : Option (Op × Nat) := if signB L i [123] then bindP (setP L 24 i) fun sub j => some (⟨false, [], [], sub⟩, j)
 else bindP (headP L i) fun m i => bindP (onameP L i) fun n i => bindP (varsP L i) fun vs i => bindP (setP L 24 i) fun sub j => some (⟨m, n, vs, sub⟩, j)
def fragP (L : List Tok) (i : Nat) : Option (Frag × Nat) := if wordB L i [111, 110] then none else bindP (nameP L i) fun n i => thenP (mustP L [111, 110] i) fun i => bindP (nameP L i) fun on i => bindP (setP L 24 i) fun sub j => some (⟨n, on, sub⟩, j)
def docStep (L : List Tok) (i : Nat) (x : Bool × Docm) : Option (Bool × Nat × (Bool × Docm)) :=
 if !x.1 && kindB' L i 0 then some (true, i, x)
 else if wordB L i [102, 114, 97, 103, 109, 101, 110, 116] then bindP (fragP L (i + 1)) fun f j => some (false, j, (false, ⟨x.2.ops, x.2.frags ++ [f]⟩))
 else bindP (opP L i) fun o j => some (false, j, (false, ⟨x.2.ops ++ [o], x.2.frags⟩))
def docP (L : List Tok) : Option Docm := bindP (loopP (docStep L) 2002 0 (true, ⟨[], []⟩)) fun x _ => some x.2
def docS (s : List Nat) : Option Docm := match tokensS s with
 | some L => docP L
 | none => none
end Go.Cb.CodeA
