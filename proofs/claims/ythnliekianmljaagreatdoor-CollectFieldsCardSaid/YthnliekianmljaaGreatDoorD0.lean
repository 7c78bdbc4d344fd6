import Derived.Test.YthnliekianmljaaGreatDoorQs1
set_option maxRecDepth 20000
set_option linter.unusedSimpArgs false
set_option linter.unusedVariables false
namespace Go.Cb.CodeA
open Go Go.Cb
variable {B:St}

/-! ways of a plain reader, one behind the other -/
def j0 {α β:Type} (p:Option (α×Nat)) (k:α→Nat→Option β):Option β:=match p with
 | some (x,i)=>k x i
 | none=>none
theorem r7 {α β:Type} {p:Option (α×Nat)} {k:α→Nat→Option β} {e1 e2:Int} {x:α} {i1:Nat} {y:β} (h1:p=if e1=0 then some (x,i1) else none) (h3:e2=0→e1=0) (h2:e1=0→k x i1=if e2=0 then some y else none):j0 p k=if e2=0 then some y else none:=by
 by_cases h:e1=0
 · rw [h1,if_pos h]; exact h2 h
 · rw [h1,if_neg h,if_neg (fun h'=>h (h3 h'))]; rfl
/-- past a sign, without a value -/
def T0 {β:Type} (p:Option Nat) (k:Nat→Option β):Option β:=match p with
 | some i=>k i
 | none=>none
theorem a3e {β:Type} {p:Option Nat} {k:Nat→Option β} {e1 e2:Int} {i1:Nat} {y:β} (h1:p=if e1=0 then some i1 else none) (h3:e2=0→e1=0) (h2:e1=0→k i1=if e2=0 then some y else none):T0 p k=if e2=0 then some y else none:=by
 by_cases h:e1=0
 · rw [h1,if_pos h]; exact h2 h
 · rw [h1,if_neg h,if_neg (fun h'=>h (h3 h'))]; rfl
theorem bind_some {α β:Type} {p:Option (α×Nat)} {k:α→Nat→Option β} {y:β} (h:j0 p k=some y):∃ x i,p=some (x,i)∧k x i=some y:=by
 cases p with
 | none=>cases h
 | some q=>exact ⟨q.1,q.2,rfl,h⟩
theorem w8 {β:Type} {p:Option Nat} {k:Nat→Option β} {y:β} (h:T0 p k=some y):∃ i,p=some i∧k i=some y:=by
 cases p with
 | none=>cases h
 | some q=>exact ⟨q,rfl,h⟩

structure Arg where
 n:List Nat
 v:Val
def Arg.row (a:Arg):List AV:=.str a.n::a.v.row
structure Dir where
 n:List Nat
 as:List Arg
def Dir.row (d:Dir):List AV:=[.str d.n,.list false (d.as.map Arg.row)]
/-- a selection -/
inductive Sel where
 | mk (k:Int) (al nm on:List Nat) (as:List Arg) (ds:List Dir) (sub:List Sel)
mutual
def Sel.row:Sel→List AV
 | .mk k al nm on as ds sub=>[.int .u8 k,.str al,.str nm,.str on,.list false (as.map Arg.row),.list false (ds.map Dir.row),.list false (Sel.rows sub)]
def Sel.rows:List Sel→List (List AV)
 | []=>[]
 | s::l=>s.row::Sel.rows l
end
theorem Sel.rows_map:∀ l:List Sel,Sel.rows l=l.map Sel.row
 | []=>by simp [Sel.rows]
 | s::l=>by simp [Sel.rows,Sel.rows_map l]
theorem Sel.row_eq (k:Int) (al nm on:List Nat) (as:List Arg) (ds:List Dir) (sub:List Sel):(Sel.mk k al nm on as ds sub).row=[.int .u8 k,.str al,.str nm,.str on,.list false (as.map Arg.row),.list false (ds.map Dir.row),.list false (sub.map Sel.row)]:=by
 rw [Sel.row,Sel.rows_map]
def ArgsOK (l:List Arg):Prop:=l.length≤3000∧∀ a∈l,a.v.OK
def b06 (l:List Dir):Prop:=l.length≤3000∧∀ d∈l,ArgsOK d.as
inductive Sel.OK:Sel→Prop
 | mk (k:Int) (al nm on:List Nat) (as:List Arg) (ds:List Dir) (sub:List Sel) (ha:ArgsOK as) (hd:b06 ds) (hl:sub.length≤3000) (h:∀ s∈sub,Sel.OK s):Sel.OK (.mk k al nm on as ds sub)
theorem Arg.row_len (a:Arg):a.row.length=6:=by
 obtain ⟨_,_,_,_,_,e⟩:=a.v.row_cells
 rw [Arg.row,e]; rfl
theorem Sel.row_len (s:Sel):s.row.length=7:=by
 cases s; rw [Sel.row_eq]; rfl
theorem c2E (l:List Arg):m7 6 (l.map Arg.row)=true:=E3 (by
 intro r hr
 obtain ⟨v,_,rfl⟩:=List.mem_map.1 hr
 exact v.row_len)
theorem c2g (l:List Dir):m7 2 (l.map Dir.row)=true:=E3 (by
 intro r hr
 obtain ⟨v,_,rfl⟩:=List.mem_map.1 hr
 rfl)
theorem a7d (l:List Sel):m7 7 (l.map Sel.row)=true:=E3 (by
 intro r hr
 obtain ⟨v,_,rfl⟩:=List.mem_map.1 hr
 exact v.row_len)
theorem a1u:ArgsOK []:=⟨by simp,by simp⟩
/-! the plain readers -/
def R3 (L:List Tok) (f i:Nat) (x:Bool×List Arg):Option (Bool×Nat×(Bool×List Arg)) :=
 if !x.1 && s8 L i [41] then some (true,i+1,x) else j0 (t7 L i) fun n i=>T0 (K2 L [58] i) fun i=>j0 (t9 L false f i) fun v j=>some (false,j,(false,x.2++[⟨n,v⟩]))
def P3 (L:List Tok) (f i:Nat):Option (List Arg×Nat):=if s8 L i [40] then j0 (t8 (R3 L f) 2002 (i+1) (true,[])) fun x j=>some (x.2,j) else some ([],i)
def R1 (L:List Tok) (f i:Nat) (l:List Dir):Option (Bool×Nat×List Dir) :=
 if s8 L i [64] then j0 (t7 L (i+1)) fun n i=>j0 (P3 L f i) fun as j=>some (false,j,l++[⟨n,as⟩]) else some (true,i,l)
def Z0 (L:List Tok) (f i:Nat):Option (List Dir×Nat):=t8 (R1 L f) 2002 i []
def W2 (L:List Tok) (i:Nat) (n:List Nat):Option ((List Nat×List Nat)×Nat):=if s8 L i [58] then j0 (t7 L (i+1)) fun m j=>some ((n,m),j) else some (([],n),i)
def a06 (L:List Tok) (f:Nat) (sP:Nat→Option (List Sel×Nat)) (i:Nat):Option (Sel×Nat) :=
 j0 (t7 L i) fun n i=>j0 (W2 L i n) fun x i=>j0 (P3 L f i) fun as i=>j0 (Z0 L f i) fun ds i =>
  if Z6 L i [123] then j0 (sP i) fun sub j=>some (.mk 1 x.1 x.2 [] as ds sub,j) else some (.mk 1 x.1 x.2 [] as ds [],i)
def a0n (L:List Tok) (f:Nat) (sP:Nat→Option (List Sel×Nat)) (on:List Nat) (i:Nat):Option (Sel×Nat):=j0 (Z0 L f i) fun ds i=>j0 (sP i) fun sub j=>some (.mk 3 [] [] on [] ds sub,j)
def I7 (L:List Tok) (f:Nat) (sP:Nat→Option (List Sel×Nat)) (i:Nat):Option (Sel×Nat) :=
 if s8 L i [46,46,46] then (if s8 L (i+1) [111,110] then j0 (t7 L (i+1+1)) fun on i=>a0n L f sP on i
  else if a0j L (i+1) 1 then j0 (t7 L (i+1)) fun n i=>j0 (Z0 L f i) fun ds j=>some (.mk 2 [] n [] [] ds [],j)
  else a0n L f sP [] (i+1))
 else a06 L f sP i
def O1 (L:List Tok) (p:Nat→Option (Sel×Nat)) (i:Nat) (l:List Sel):Option (Bool×Nat×List Sel):=j0 (p i) fun x j=>if s8 L j [125] then some (true,j+1,l++[x]) else some (false,j,l++[x])
def q9 (L:List Tok):Nat→Nat→Option (List Sel×Nat)
 | 0,_=>none
 | f+1,i=>T0 (K2 L [123] i) fun i=>t8 (O1 L (I7 L f (q9 L f))) 2002 i []
structure VDef where
 n:List Nat
 t:TRef
 has:Bool
 v:Val
def VDef.row (d:VDef):List AV:=.str d.n::(d.t.row++.bool d.has::d.v.row)
structure Op where
 m:Bool
 n:List Nat
 vs:List VDef
 sub:List Sel
def Op.row (o:Op):List AV:=[.bool o.m,.str o.n,.list false (o.vs.map VDef.row),.list false (o.sub.map Sel.row)]
structure Frag where
 n:List Nat
 on:List Nat
 sub:List Sel
def Frag.row (f:Frag):List AV:=[.str f.n,.str f.on,.list false (f.sub.map Sel.row)]
structure Docm where
 ops:List Op
 frags:List Frag
def Docm.row (d:Docm):List AV:=[.list false (d.ops.map Op.row),.list false (d.frags.map Frag.row)]
def Val.none:Val:=.mk 0 0 [] [] []
theorem Val.none_ok:Val.none.OK:=(Val.simple 0 0 [] (by decide)).1
theorem Val.none_row:Val.none.row=[.int .u8 0,.int .i64 0,.str [],.list false [],.list false []]:=(Val.simple 0 0 [] (by decide)).2
def a2D (L:List Tok) (i:Nat):Option (VDef×Nat):=T0 (K2 L [36] i) fun i=>j0 (t7 L i) fun n i=>T0 (K2 L [58] i) fun i=>j0 (P0 L 24 i) fun t i =>
 if s8 L i [61] then j0 (t9 L true 24 (i+1)) fun v j=>some (⟨n,t,true,v⟩,j) else some (⟨n,t,false,Val.none⟩,i)
def U4 (L:List Tok) (i:Nat) (l:List VDef):Option (Bool×Nat×List VDef):=if s8 L i [41] then some (true,i+1,l) else j0 (a2D L i) fun v j=>some (false,j,l++[v])
def S0 (L:List Tok) (i:Nat):Option (List VDef×Nat):=if s8 L i [40] then j0 (a2D L (i+1)) fun v i=>t8 (U4 L) 2002 i [v] else some ([],i)
def W3 (L:List Tok) (i:Nat):Option (List Nat×Nat):=if a0j L i 1 then t7 L i else some ([],i)
def a2V (L:List Tok) (s:List Nat) (i:Nat):Option Nat:=if a1E L i s then some (i+1) else none
def a1w (L:List Tok) (i:Nat):Option (Bool×Nat):=if s8 L i [109,117,116,97,116,105,111,110] then some (true,i+1) else T0 (a2V L [113,117,101,114,121] i) fun i=>some (false,i)
def opP (L:List Tok) (i:Nat):Option (Op×Nat):=if Z6 L i [123] then j0 (q9 L 24 i) fun sub j=>some (⟨false,[],[],sub⟩,j)
 else j0 (a1w L i) fun m i=>j0 (W3 L i) fun n i=>j0 (S0 L i) fun vs i=>j0 (q9 L 24 i) fun sub j=>some (⟨m,n,vs,sub⟩,j)
def Y8 (L:List Tok) (i:Nat):Option (Frag×Nat):=if a1E L i [111,110] then none else j0 (t7 L i) fun n i=>T0 (K2 L [111,110] i) fun i=>j0 (t7 L i) fun on i=>j0 (q9 L 24 i) fun sub j=>some (⟨n,on,sub⟩,j)
def G5 (L:List Tok) (i:Nat) (x:Bool×Docm):Option (Bool×Nat×(Bool×Docm)) :=
 if !x.1 && a0j L i 0 then some (true,i,x)
 else if a1E L i [102,114,97,103,109,101,110,116] then j0 (Y8 L (i+1)) fun f j=>some (false,j,(false,⟨x.2.ops,x.2.frags++[f]⟩))
 else j0 (opP L i) fun o j=>some (false,j,(false,⟨x.2.ops++[o],x.2.frags⟩))
def a0u (L:List Tok):Option Docm:=j0 (t8 (G5 L) 2002 0 (true,⟨[],[]⟩)) fun x _=>some x.2
def a6Z (s:List Nat):Option Docm:=match I9 s with
 | some L=>a0u L
 | none=>none
end Go.Cb.CodeA
