import Derived.Test.YtbanbicfopmcbaaGreatDoorChV
set_option maxRecDepth 4000
set_option linter.unusedSimpArgs false
set_option linter.unusedVariables false
namespace Go.Cb.CodeA
open Go Go.Cb
/-- what stood there stands there still -/
def Gr (st st':St):Prop:=∀ (o:Nat) (x:Obj),st[o]?=some x→st'[o]?=some x
theorem a2p {st:St} {o:Nat} {x y:Obj} (h:st[o]?=some x):(st.set o y)[o]?=some y:=by
 rw [List.getElem?_set_self]
 exact (List.getElem?_eq_some_iff.1 h).1
/-- a value -/
inductive Val where
 | mk (k n:Int) (s:List Nat) (ks:List (List Nat)) (ls:List Val)
def c0m (x:List Nat):List AV:=[.str x]
mutual
def Val.row:Val→List AV
 | .mk k n s ks ls=>[.int .u8 k,.int .i64 n,.str s,.list false (ks.map c0m),.list false (Val.rows ls)]
def Val.rows:List Val→List (List AV)
 | []=>[]
 | v::vs=>v.row::Val.rows vs
end
/-- a value whose objects have as many names as values -/
inductive Val.OK:Val→Prop
 | mk (k n:Int) (s:List Nat) (ks:List (List Nat)) (ls:List Val) (h6:k=6→ks.length=ls.length) (hk:ks.length≤3000) (hl:ls.length≤3000) (h:∀ v∈ls,Val.OK v):Val.OK (.mk k n s ks ls)
def Val.none:Val:=.mk 0 0 [] [] []
theorem Gr.refl (st:St):Gr st st:=fun _ _ h=>h
theorem Gr.trans {a b c:St} (h:Gr a b) (h':Gr b c):Gr a c:=fun o x hx=>h' o x (h o x hx)
theorem Gr.app (st t:St):Gr st (st++t):=fun o x h=>by
 rw [List.getElem?_append_left (List.getElem?_eq_some_iff.1 h).1]; exact h
def Val.kind:Val→Int|.mk k _ _ _ _=>k
def Val.text:Val→List Nat|.mk _ _ s _ _=>s
theorem M3 {st:St} {o i:Nat} {x y:Obj} (h:st[i]?=some x) (hne:o≠i):(st.set o y)[i]?=some x:=by rw [List.getElem?_set_ne hne]; exact h
theorem b6q (st:St) (y:Obj):(st++[y])[st.length]?=some y:=by rw [List.getElem?_append_right (Nat.le_refl _),Nat.sub_self]; rfl
end Go.Cb.CodeA
