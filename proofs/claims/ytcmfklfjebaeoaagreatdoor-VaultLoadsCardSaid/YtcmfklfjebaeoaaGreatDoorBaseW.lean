import Derived.Test.YtcmfklfjebaeoaaGreatDoorChV
set_option maxRecDepth 4000
set_option linter.unusedSimpArgs false
set_option linter.unusedVariables false
namespace Go.Cb.CodeA
open Go Go.Cb
/-- what stood there stands there still -/
def Gr (st st':St):Prop:=∀ (o:Nat) (x:Obj),st[o]?=some x→st'[o]?=some x
theorem M8 {st:St} {o:Nat} {x y:Obj} (h:st[o]?=some x):(st.set o y)[o]?=some y:=by
 rw [List.getElem?_set_self]
 exact (List.getElem?_eq_some_iff.1 h).1
/-- a value -/
inductive Val where
 | mk (k n:Int) (s:List Nat) (ks:List (List Nat)) (ls:List Val)
def v7 (x:List Nat):List AV:=[.str x]
mutual
def Val.row:Val→List AV
 | .mk k n s ks ls=>[.int .u8 k,.int .i64 n,.str s,.list false (ks.map v7),.list false (Val.rows ls)]
def Val.rows:List Val→List (List AV)
 | []=>[]
 | v::vs=>v.row::Val.rows vs
end
theorem Val.rows_map:∀ vs:List Val,Val.rows vs=vs.map Val.row
 | []=>by simp [Val.rows]
 | v::vs=>by simp [Val.rows,Val.rows_map vs]
/-- a value whose objects have as many names as values -/
inductive Val.OK:Val→Prop
 | mk (k n:Int) (s:List Nat) (ks:List (List Nat)) (ls:List Val) (h6:k=6→ks.length=ls.length) (hk:ks.length≤3000) (hl:ls.length≤3000) (h:∀ v∈ls,Val.OK v):Val.OK (.mk k n s ks ls)
theorem Val.row_eq (k n:Int) (s:List Nat) (ks:List (List Nat)) (ls:List Val):(Val.mk k n s ks ls).row=[.int .u8 k,.int .i64 n,.str s,.list false (ks.map v7),.list false (ls.map Val.row)]:=by
 rw [Val.row,Val.rows_map]
theorem Val.row_cells (v:Val):∃ k n s xs ys,v.row=[.int .u8 k,.int .i64 n,.str s,.list false xs,.list false ys]:=by
 cases v; exact ⟨_,_,_,_,_,Val.row_eq _ _ _ _ _⟩
theorem Val.simple (k n:Int) (s:List Nat) (h:k≠6):(Val.mk k n s [] []).OK∧(Val.mk k n s [] []).row=[.int .u8 k,.int .i64 n,.str s,.list false [],.list false []] :=
 ⟨.mk _ _ _ _ _ (fun e=>absurd e h) (by simp) (by simp) (by simp),by rw [Val.row_eq]; rfl⟩
theorem b0z (l:List Val):g8 5 (l.map Val.row)=true:=a0p (by
 intro r hr
 obtain ⟨v,_,rfl⟩:=List.mem_map.1 hr
 obtain ⟨_,_,_,_,_,e⟩:=v.row_cells
 rw [e]
 rfl)
theorem c0U (l:List (List Nat)):g8 1 (l.map v7)=true:=a0p (by
 intro r hr
 obtain ⟨v,_,rfl⟩:=List.mem_map.1 hr
 rfl)
def Val.none:Val:=.mk 0 0 [] [] []
theorem Val.none_row:Val.none.row=[.int .u8 0,.int .i64 0,.str [],.list false [],.list false []]:=(Val.simple 0 0 [] (by decide)).2
theorem Gr.refl (st:St):Gr st st:=fun _ _ h=>h
theorem Gr.trans {a b c:St} (h:Gr a b) (h':Gr b c):Gr a c:=fun o x hx=>h' o x (h o x hx)
theorem Gr.app (st t:St):Gr st (st++t):=fun o x h=>by
 rw [List.getElem?_append_left (List.getElem?_eq_some_iff.1 h).1]; exact h
def Val.kind:Val→Int|.mk k _ _ _ _=>k
def Val.text:Val→List Nat|.mk _ _ s _ _=>s
theorem a8H (st:St) (y z:Cb.Obj):(st++[y]).set st.length z=st++[z]:=by
 rw [List.set_append_right _ _ (Nat.le_refl _),Nat.sub_self]; rfl
theorem M9 (st:St) (y:Obj):(st++[y])[st.length]?=some y:=by rw [List.getElem?_append_right (Nat.le_refl _),Nat.sub_self]; rfl
end Go.Cb.CodeA
