import Derived.Test.YtgaibigpannjfaaGreatDoorChV
set_option maxRecDepth 4000
set_option linter.all false
namespace Go.Cb.CodeA
open Go Go.Cb
def Gr (st st':St):Prop:=∀ (o:Nat) (x:Obj),st[o]?=some x→st'[o]?=some x
inductive Val where
 | mk (k n:Int) (s:List Nat) (ks:List (List Nat)) (ls:List Val)
def b9 (x:List Nat):List AV:=[.str x]
mutual
def Val.row:Val→List AV
 | .mk k n s ks ls=>[.int .u8 k,.int .i64 n,.str s,.list false (ks.map b9),.list false (Val.rows ls)]
def Val.rows:List Val→List (List AV)
 | []=>[]
 | v::vs=>v.row::Val.rows vs
end
theorem Val.rows_map:∀ vs:List Val,Val.rows vs=vs.map Val.row
 | []=>by simp[Val.rows]
 | v::vs=>by simp[Val.rows,Val.rows_map vs]
inductive Val.OK:Val→Prop
 | mk (k n:Int) (s:List Nat) (ks:List (List Nat)) (ls:List Val) (h6:k=6→ks.length=ls.length) (hk:ks.length≤3000) (hl:ls.length≤3000) (h:∀ v∈ls,Val.OK v):Val.OK (.mk k n s ks ls)
theorem Val.row_eq (k n:Int) (s:List Nat) (ks:List (List Nat)) (ls:List Val):(Val.mk k n s ks ls).row=[.int .u8 k,.int .i64 n,.str s,.list false (ks.map b9),.list false (ls.map Val.row)]:=by rw[Val.row,Val.rows_map]
theorem Val.row_cells (v:Val):∃ k n s xs ys,v.row=[.int .u8 k,.int .i64 n,.str s,.list false xs,.list false ys]:=by cases v; exact⟨_,_,_,_,_,Val.row_eq _ _ _ _ _⟩
theorem b2Q (l:List Val):s5 5 (l.map Val.row)=true:=a4n (by intro r i;obtain⟨v,_,rfl⟩:=List.mem_map.1 i;obtain⟨_,_,_,_,_,e⟩:=v.row_cells;rw[e];rfl)
theorem c7q (l:List (List Nat)):s5 1 (l.map b9)=true:=a4n (by intro r i;obtain⟨v,_,rfl⟩:=List.mem_map.1 i;rfl)
def Val.none:Val:=.mk 0 0 [] [] []
theorem Gr.refl (st:St):Gr st st:=fun _ _ h=>h
theorem Gr.trans {a b c:St} (h:Gr a b) (i:Gr b c):Gr a c:=fun o x j=>i o x (h o x j)
theorem Gr.app (st t:St):Gr st (st++t):=fun o x h=>by rw[List.getElem?_append_left (List.getElem?_eq_some_iff.1 h).1]; exact h
def Val.kind:Val→Int|.mk k _ _ _ _=>k
def Val.text:Val→List Nat|.mk _ _ s _ _=>s
theorem a4u (st:St) (y z:Cb.Obj):(st++[y]).set st.length z=st++[z]:=by rw[List.set_append_right _ _ (Nat.le_refl _),Nat.sub_self]; rfl
theorem a03 (st:St) (y:Obj):(st++[y])[st.length]?=some y:=by rw[List.getElem?_append_right (Nat.le_refl _),Nat.sub_self]; rfl
end Go.Cb.CodeA
