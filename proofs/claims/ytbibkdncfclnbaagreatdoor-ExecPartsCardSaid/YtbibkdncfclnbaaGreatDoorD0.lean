import Derived.Test.YtbibkdncfclnbaaGreatDoorQs1
set_option maxRecDepth 20000
set_option linter.unusedSimpArgs false
set_option linter.unusedVariables false
namespace Go.Cb.CodeA
open Go Go.Cb
variable {B:St}
def d0C {α β:Type} (p:Option (α×Nat)) (k:α→Nat→Option β):Option β:=match p with
 | some (x,i)=>k x i
 | none=>none
theorem bind_some {α β:Type} {p:Option (α×Nat)} {k:α→Nat→Option β} {y:β} (h:d0C p k=some y):∃ x i,p=some (x,i)∧k x i=some y:=by
 cases p with
 | none=>cases h
 | some q=>exact ⟨q.1,q.2,rfl,h⟩
structure Arg where
 n:List Nat
 v:Val
def Arg.row (a:Arg):List AV:=.str a.n::a.v.row
structure Dir where
 n:List Nat
 as:List Arg
def Dir.row (d:Dir):List AV:=[.str d.n,.list false (d.as.map Arg.row)]
inductive Sel where
 | mk (k:Int) (al nm on:List Nat) (as:List Arg) (ds:List Dir) (sub:List Sel)
mutual
def Sel.row:Sel→List AV
 | .mk k al nm on as ds sub=>[.int .u8 k,.str al,.str nm,.str on,.list false (as.map Arg.row),.list false (ds.map Dir.row),.list false (Sel.rows sub)]
def Sel.rows:List Sel→List (List AV)
 | []=>[]
 | s::l=>s.row::Sel.rows l
end
theorem Sel.rows_map:∀ l:List Sel,Sel.rows l=l.map Sel.row
 | []=>by simp [Sel.rows]
 | s::l=>by simp [Sel.rows,Sel.rows_map l]
theorem Sel.row_eq (k:Int) (al nm on:List Nat) (as:List Arg) (ds:List Dir) (sub:List Sel):(Sel.mk k al nm on as ds sub).row=[.int .u8 k,.str al,.str nm,.str on,.list false (as.map Arg.row),.list false (ds.map Dir.row),.list false (sub.map Sel.row)]:=by
 rw [Sel.row,Sel.rows_map]
def ArgsOK (l:List Arg):Prop:=l.length≤3000∧∀ a∈l,a.v.OK
def c6w (l:List Dir):Prop:=l.length≤3000∧∀ d∈l,ArgsOK d.as
inductive Sel.OK:Sel→Prop
 | mk (k:Int) (al nm on:List Nat) (as:List Arg) (ds:List Dir) (sub:List Sel) (ha:ArgsOK as) (hd:c6w ds) (hl:sub.length≤3000) (h:∀ s∈sub,Sel.OK s):Sel.OK (.mk k al nm on as ds sub)
theorem Arg.row_len (a:Arg):a.row.length=6:=by
 obtain ⟨_,_,_,_,_,e⟩:=a.v.row_cells
 rw [Arg.row,e]; rfl
theorem Sel.row_len (s:Sel):s.row.length=7:=by
 cases s; rw [Sel.row_eq]; rfl
theorem b3U (l:List Sel):l3 7 (l.map Sel.row)=true:=U9 (by
 intro r hr
 obtain ⟨v,_,rfl⟩:=List.mem_map.1 hr
 exact v.row_len)
structure VDef where
 n:List Nat
 t:TRef
 has:Bool
 v:Val
def VDef.row (d:VDef):List AV:=.str d.n::(d.t.row++.bool d.has::d.v.row)
structure Op where
 m:Bool
 n:List Nat
 vs:List VDef
 sub:List Sel
def Op.row (o:Op):List AV:=[.bool o.m,.str o.n,.list false (o.vs.map VDef.row),.list false (o.sub.map Sel.row)]
structure Frag where
 n:List Nat
 on:List Nat
 sub:List Sel
def Frag.row (f:Frag):List AV:=[.str f.n,.str f.on,.list false (f.sub.map Sel.row)]
structure Docm where
 ops:List Op
 frags:List Frag
def Docm.row (d:Docm):List AV:=[.list false (d.ops.map Op.row),.list false (d.frags.map Frag.row)]
def Val.none:Val:=.mk 0 0 [] [] []
theorem Val.none_ok:Val.none.OK:=(Val.simple 0 0 [] (by decide)).1
theorem Val.none_row:Val.none.row=[.int .u8 0,.int .i64 0,.str [],.list false [],.list false []]:=(Val.simple 0 0 [] (by decide)).2
end Go.Cb.CodeA
