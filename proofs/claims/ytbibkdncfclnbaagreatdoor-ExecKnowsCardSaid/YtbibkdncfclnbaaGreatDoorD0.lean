import Derived.Test.YtbibkdncfclnbaaGreatDoorQs1
set_option maxRecDepth 20000
set_option linter.all false
namespace Go.Cb.CodeA
open Go Go.Cb
variable {B:St}
def l6 {α β:Type} (p:Option (α×Nat)) (k:α→Nat→Option β):Option β:=match p with
 | some (x,i)=>k x i
 | none=>none
theorem A9 {α β:Type} {p:Option (α×Nat)} {k:α→Nat→Option β} {e e2:Int} {x:α} {i1:Nat} {y:β} (l:p=if e=0 then some (x,i1)else none) (v:e2=0→e=0) (u:e=0→k x i1=if e2=0 then some y else none):l6 p k=if e2=0 then some y else none:=by
 by_cases h:e=0
 · rw[l,if_pos h]; exact u h
 · rw[l,if_neg h,if_neg (fun t=>h (v t))]; rfl
def a0v {β:Type} (p:Option Nat) (k:Nat→Option β):Option β:=match p with
 | some i=>k i
 | none=>none
theorem a6m {β:Type} {p:Option Nat} {k:Nat→Option β} {e e2:Int} {i1:Nat} {y:β} (l:p=if e=0 then some i1 else none) (v:e2=0→e=0) (u:e=0→k i1=if e2=0 then some y else none):a0v p k=if e2=0 then some y else none:=by
 by_cases h:e=0
 · rw[l,if_pos h]; exact u h
 · rw[l,if_neg h,if_neg (fun t=>h (v t))]; rfl
theorem bind_some {α β:Type} {p:Option (α×Nat)} {k:α→Nat→Option β} {y:β} (h:l6 p k=some y):∃ x i,p=some (x,i)∧k x i=some y:=by
 cases p with
 | none=>cases h
 | some q=>exact⟨q.1,q.2,rfl,h⟩
theorem D0 {β:Type} {p:Option Nat} {k:Nat→Option β} {y:β} (h:a0v p k=some y):∃ i,p=some i∧k i=some y:=by
 cases p with
 | none=>cases h
 | some q=>exact⟨q,rfl,h⟩
structure Arg where
 n:List Nat
 v:Val
def Arg.row (a:Arg):List AV:=.str a.n::a.v.row
structure Dir where
 n:List Nat
 as:List Arg
def Dir.row (d:Dir):List AV:=[.str d.n,.list false (d.as.map Arg.row)]
inductive Sel where
 | mk (k:Int) (al nm on:List Nat) (as:List Arg) (ds:List Dir) (sub:List Sel)
mutual
def Sel.row:Sel→List AV
 | .mk k al nm on as ds sub=>[.int .u8 k,.str al,.str nm,.str on,.list false (as.map Arg.row),.list false (ds.map Dir.row),.list false (Sel.rows sub)]
def Sel.rows:List Sel→List (List AV)
 | []=>[]
 | s::l=>s.row::Sel.rows l
end
theorem Sel.rows_map:∀ l:List Sel,Sel.rows l=l.map Sel.row
 | []=>by simp[Sel.rows]
 | s::l=>by simp[Sel.rows,Sel.rows_map l]
theorem Sel.row_eq (k:Int) (al nm on:List Nat) (as:List Arg) (ds:List Dir) (sub:List Sel):(Sel.mk k al nm on as ds sub).row=[.int .u8 k,.str al,.str nm,.str on,.list false (as.map Arg.row),.list false (ds.map Dir.row),.list false (sub.map Sel.row)]:=by rw[Sel.row,Sel.rows_map]
def ArgsOK (l:List Arg):Prop:=l.length≤3000∧∀ a∈l,a.v.OK
def b8n (l:List Dir):Prop:=l.length≤3000∧∀ d∈l,ArgsOK d.as
inductive Sel.OK:Sel→Prop
 | mk (k:Int) (al nm on:List Nat) (as:List Arg) (ds:List Dir) (sub:List Sel) (ha:ArgsOK as) (hd:b8n ds) (hl:sub.length≤3000) (h:∀ s∈sub,Sel.OK s):Sel.OK (.mk k al nm on as ds sub)
theorem Arg.row_len (a:Arg):a.row.length=6:=by obtain⟨_,_,_,_,_,e⟩:=a.v.row_cells;rw[Arg.row,e]; rfl
theorem Sel.row_len (s:Sel):s.row.length=7:=by cases s; rw[Sel.row_eq]; rfl
theorem c5U (l:List Arg):l5 6 (l.map Arg.row)=true:=B3 (by intro r e;obtain⟨v,_,rfl⟩:=List.mem_map.1 e;exact v.row_len)
theorem c5z (l:List Dir):l5 2 (l.map Dir.row)=true:=B3 (by intro r e;obtain⟨v,_,rfl⟩:=List.mem_map.1 e;rfl)
theorem a9h (l:List Sel):l5 7 (l.map Sel.row)=true:=B3 (by intro r e;obtain⟨v,_,rfl⟩:=List.mem_map.1 e;exact v.row_len)
theorem a4v:ArgsOK []:=⟨by simp,by simp⟩
def Y1 (L:List Tok) (f i:Nat) (x:Bool×List Arg):Option (Bool×Nat×(Bool×List Arg)) :=
 if !x.1 && C0 L i [41]then some (true,i+1,x)else l6 (E6 L i) fun n i=>a0v (R7 L [58] i) fun i=>l6 (B7 L false f i) fun v j=>some (false,j,(false,x.2++[⟨n,v⟩]))
def R6 (L:List Tok) (f i:Nat):Option (List Arg×Nat):=if C0 L i [40]then l6 (C7 (Y1 L f) 2002 (i+1) (true,[])) fun x j=>some (x.2,j)else some ([],i)
def a0g (L:List Tok) (f i:Nat) (l:List Dir):Option (Bool×Nat×List Dir) :=
 if C0 L i [64]then l6 (E6 L (i+1)) fun n i=>l6 (R6 L f i) fun as j=>some (false,j,l++[⟨n,as⟩])else some (true,i,l)
def a1W (L:List Tok) (f i:Nat):Option (List Dir×Nat):=C7 (a0g L f) 2002 i []
def a1l (L:List Tok) (i:Nat) (n:List Nat):Option ((List Nat×List Nat)×Nat):=if C0 L i [58]then l6 (E6 L (i+1)) fun m j=>some ((n,m),j)else some (([],n),i)
def a3T (L:List Tok) (f:Nat) (e:Nat→Option (List Sel×Nat)) (i:Nat):Option (Sel×Nat) :=
 l6 (E6 L i) fun n i=>l6 (a1l L i n) fun x i=>l6 (R6 L f i) fun as i=>l6 (a1W L f i) fun ds i =>if a2a L i [123]then l6 (e i) fun sub j=>some (.mk 1 x.1 x.2 [] as ds sub,j)else some (.mk 1 x.1 x.2 [] as ds [],i)
def a2D (L:List Tok) (f:Nat) (e:Nat→Option (List Sel×Nat)) (on:List Nat) (i:Nat):Option (Sel×Nat):=l6 (a1W L f i) fun ds i=>l6 (e i) fun sub j=>some (.mk 3 [] [] on [] ds sub,j)
def O8 (L:List Tok) (f:Nat) (e:Nat→Option (List Sel×Nat)) (i:Nat):Option (Sel×Nat) :=
 if C0 L i [46,46,46]then(if C0 L (i+1) [111,110]then l6 (E6 L (i+1+1)) fun on i=>a2D L f e on i
  else if a2s L (i+1) 1 then l6 (E6 L (i+1)) fun n i=>l6 (a1W L f i) fun ds j=>some (.mk 2 [] n [] [] ds [],j)
  else a2D L f e [] (i+1))
 else a3T L f e i
def W9 (L:List Tok) (p:Nat→Option (Sel×Nat)) (i:Nat) (l:List Sel):Option (Bool×Nat×List Sel):=l6 (p i) fun x j=>if C0 L j [125]then some (true,j+1,l++[x])else some (false,j,l++[x])
def t6 (L:List Tok):Nat→Nat→Option (List Sel×Nat)
 | 0,_=>none
 | f+1,i=>a0v (R7 L [123] i) fun i=>C7 (W9 L (O8 L f (t6 L f))) 2002 i []
structure VDef where
 n:List Nat
 t:TRef
 has:Bool
 v:Val
def VDef.row (d:VDef):List AV:=.str d.n::(d.t.row++.bool d.has::d.v.row)
structure Op where
 m:Bool
 n:List Nat
 vs:List VDef
 sub:List Sel
def Op.row (o:Op):List AV:=[.bool o.m,.str o.n,.list false (o.vs.map VDef.row),.list false (o.sub.map Sel.row)]
structure Frag where
 n:List Nat
 on:List Nat
 sub:List Sel
def Frag.row (f:Frag):List AV:=[.str f.n,.str f.on,.list false (f.sub.map Sel.row)]
structure Docm where
 ops:List Op
 frags:List Frag
def Docm.row (d:Docm):List AV:=[.list false (d.ops.map Op.row),.list false (d.frags.map Frag.row)]
def Val.none:Val:=.mk 0 0 [] [] []
theorem Val.none_ok:Val.none.OK:=(Val.simple 0 0 [] (by decide)).1
theorem Val.none_row:Val.none.row=[.int .u8 0,.int .i64 0,.str [],.list false [],.list false []]:=(Val.simple 0 0 [] (by decide)).2
def a5J (L:List Tok) (i:Nat):Option (VDef×Nat):=a0v (R7 L [36] i) fun i=>l6 (E6 L i) fun n i=>a0v (R7 L [58] i) fun i=>l6 (Y6 L 24 i) fun t i =>if C0 L i [61]then l6 (B7 L true 24 (i+1)) fun v j=>some (⟨n,t,true,v⟩,j)else some (⟨n,t,false,Val.none⟩,i)
def a08 (L:List Tok) (i:Nat) (l:List VDef):Option (Bool×Nat×List VDef):=if C0 L i [41]then some (true,i+1,l)else l6 (a5J L i) fun v j=>some (false,j,l++[v])
def a0b (L:List Tok) (i:Nat):Option (List VDef×Nat):=if C0 L i [40]then l6 (a5J L (i+1)) fun v i=>C7 (a08 L) 2002 i [v]else some ([],i)
def a1s (L:List Tok) (i:Nat):Option (List Nat×Nat):=if a2s L i 1 then E6 L i else some ([],i)
def a5Y (L:List Tok) (s:List Nat) (i:Nat):Option Nat:=if a4y L i s then some (i+1)else none
def a4P (L:List Tok) (i:Nat):Option (Bool×Nat):=if C0 L i [109,117,116,97,116,105,111,110]then some (true,i+1)else a0v (a5Y L [113,117,101,114,121] i) fun i=>some (false,i)
def opP (L:List Tok) (i:Nat):Option (Op×Nat):=if a2a L i [123]then l6 (t6 L 24 i) fun sub j=>some (⟨false,[],[],sub⟩,j)
 else l6 (a4P L i) fun m i=>l6 (a1s L i) fun n i=>l6 (a0b L i) fun vs i=>l6 (t6 L 24 i) fun sub j=>some (⟨m,n,vs,sub⟩,j)
def a1Z (L:List Tok) (i:Nat):Option (Frag×Nat):=if a4y L i [111,110]then none else l6 (E6 L i) fun n i=>a0v (R7 L [111,110] i) fun i=>l6 (E6 L i) fun on i=>l6 (t6 L 24 i) fun sub j=>some (⟨n,on,sub⟩,j)
def Q1 (L:List Tok) (i:Nat) (x:Bool×Docm):Option (Bool×Nat×(Bool×Docm)) :=
 if !x.1 && a2s L i 0 then some (true,i,x)
 else if a4y L i [102,114,97,103,109,101,110,116]then l6 (a1Z L (i+1)) fun f j=>some (false,j,(false,⟨x.2.ops,x.2.frags++[f]⟩))
 else l6 (opP L i) fun o j=>some (false,j,(false,⟨x.2.ops++[o],x.2.frags⟩))
def a7f (L:List Tok):Option Docm:=l6 (C7 (Q1 L) 2002 0 (true,⟨[],[]⟩)) fun x _=>some x.2
def a8O (s:List Nat):Option Docm:=match P4 s with
 | some L=>a7f L
 | none=>none
end Go.Cb.CodeA
