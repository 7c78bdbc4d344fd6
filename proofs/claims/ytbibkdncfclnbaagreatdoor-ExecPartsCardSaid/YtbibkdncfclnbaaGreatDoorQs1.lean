import Derived.Test.YtbibkdncfclnbaaGreatDoorChV
import Derived.Test.YtbibkdncfclnbaaGreatDoorXAms3
set_option maxRecDepth 20000
set_option linter.unusedSimpArgs false
set_option linter.unusedVariables false
namespace Go.Cb.CodeA
open Go Go.Cb
attribute [local congr] i7 j1 j2 j3 j0 i8 k6 j9 V.runR_congr
abbrev b9g:=Option (Int×List Nat×Int×List Nat)
def OneOK (s:List Nat) (i:Nat) (X:b9g) (a:AV):Prop:=∃ (k:Int) (t:List Nat) (n at':Int) (en:Nat) (bad e:Int),
 a=.tuple [.agg [.int .u8 k,.str t,.int .i64 n,.int .i64 at'],.int .i64 en,.int .i64 bad,.int .i64 e]∧(e=0→k≠0∧i < en∧en≤s.length)∧X=if e=0 then some (k,t,n,s.drop en) else none
theorem OneOK.bad {s:List Nat} {i:Nat} {X:b9g} {k:Int} {t:List Nat} {n at':Int} {en:Nat} {bad e:Int} (he:e≠0) (hX:X=none) :
 OneOK s i X (.tuple [.agg [.int .u8 k,.str t,.int .i64 n,.int .i64 at'],.int .i64 en,.int .i64 bad,.int .i64 e]):=⟨_,_,_,_,_,_,_,rfl,fun h=>absurd h he,by rw [hX,if_neg he]⟩
theorem OneOK.good {s:List Nat} {i:Nat} {X:b9g} {k:Int} {t:List Nat} {n at':Int} {en:Nat} {bad:Int} (hk:k≠0) (h1:i < en) (h2:en≤s.length) (hX:X=some (k,t,n,s.drop en)) :
 OneOK s i X (.tuple [.agg [.int .u8 k,.str t,.int .i64 n,.int .i64 at'],.int .i64 en,.int .i64 bad,.int .i64 0]):=⟨_,_,_,_,_,_,_,rfl,fun _=>⟨hk,h1,h2⟩,by rw [hX,if_pos rfl]⟩
end Go.Cb.CodeA
set_option maxRecDepth 20000
set_option linter.unusedSimpArgs false
set_option linter.unusedVariables false
namespace Go.Cb.CodeA
open Go Go.Cb
attribute [local congr] i7 j1 j2 j3 j0 i8 k6 j9 V.runR_congr
structure Tok where
 k:Int
 t:List Nat
 n:Int
 a:Int
def Tok.row (t:Tok):List AV:=[.int .u8 t.k,.str t.t,.int .i64 t.n,.int .i64 t.a]
def d6y (L:List Tok):Prop:=∃ L' a,L=L'++[⟨0,[],0,a⟩]∧∀ t∈L',t.k≠0
def skipC:List Nat→List Nat
 | []=>[]
 | b::r=>if eqI (b:Int) 10 then b::r else skipC r
end Go.Cb.CodeA
set_option maxRecDepth 20000
set_option linter.unusedSimpArgs false
set_option linter.unusedVariables false
namespace Go.Cb.CodeA
open Go Go.Cb
attribute [local congr] i7 j1 j2 j3 j0 i8 k6 j9 V.runR_congr
variable {B:St}
def rdC (L:List Tok) (i:Nat) (d bad e:Int):List AV:=[.list false (L.map Tok.row),.int .i64 i,.int .i64 d,.int .i64 bad,.int .i64 e]
def Gr (st st':St):Prop:=∀ (o:Nat) (x:Obj),st[o]?=some x→st'[o]?=some x
structure Rd (B:St) (L:List Tok) (o:Nat) (st:St) (i:Nat) (d e:Int):Prop where
 hL:d6y L∧L.length≤2001
 hi:i < L.length
 sh:∃ bad,st=B++[.cells (rdC L i d bad e)]
 oB:o=B.length
theorem Rd.ob {B:St} {L:List Tok} {o:Nat} {st:St} {i:Nat} {d e:Int} (h:Rd B L o st i d e):∃ bad,st[o]?=some (.cells (rdC L i d bad e)):=by
 obtain ⟨bad,e1⟩:=h.sh
 exact ⟨bad,by rw [e1,h.oB,List.getElem?_append_right (AJ _),Nat.sub_self]; rfl⟩
theorem L7 {st:St} {o:Nat} {x y:Obj} (h:st[o]?=some x):(st.set o y)[o]?=some y:=by
 rw [List.getElem?_set_self]
 exact (AB.1 h).1
theorem Rd.put {L:List Tok} {o:Nat} {st:St} {i:Nat} {d e:Int} (h:Rd B L o st i d e) {j:Nat} {d' bad' e':Int} (hj:j < L.length):Rd B L o (st.set o (.cells (rdC L j d' bad' e'))) j d' e':=by
 obtain ⟨bad,e1⟩:=h.sh
 refine ⟨h.hL,hj,⟨bad',?_⟩,h.oB⟩
 rw [e1,h.oB,List.set_append_right _ _ (AJ _),Nat.sub_self]
 rfl
def b0K {α:Type} (step:Nat→α→Option (Bool×Nat×α)):Nat→Nat→α→Option (α×Nat)
 | 0,_,_=>none
 | f+1,i,a=>match step i a with
  | none=>none
  | some (true,j,b)=>some (b,j)
  | some (false,j,b)=>b0K step f j b
def LoopAt {α:Type} (step:Nat→α→Option (Bool×Nat×α)) (w:Option (α×Nat)) (i:Nat) (a:α) (e:Int):Prop:=if e=0 then ∃ c,c≤i∧w=b0K step (2002 - c) i a else w=none
theorem LoopAt.unroll {α:Type} {step:Nat→α→Option (Bool×Nat×α)} {w:Option (α×Nat)} {i:Nat} {a:α} (hi:i≤2001) (h:LoopAt step w i a 0):∃ c,c≤i∧w=match step i a with
 | none=>none
 | some (true,j,b)=>some (b,j)
 | some (false,j,b)=>b0K step (2002 - (c+1)) j b:=by
 obtain ⟨c,hc,e⟩:=h
 refine ⟨c,hc,?_⟩
 rw [e,show 2002 - c=(2002 - (c+1))+1 by omega,b0K]
theorem LoopAt.exit {α:Type} {step:Nat→α→Option (Bool×Nat×α)} {w:Option (α×Nat)} {i:Nat} {a:α} (hi:i≤2001) (h:LoopAt step w i a 0) {j:Nat} {b:α} (hs:step i a=some (true,j,b)):w=some (b,j):=by
 obtain ⟨c,_,e⟩:=h.unroll hi
 rw [e,hs]
theorem LoopAt.next {α:Type} {step:Nat→α→Option (Bool×Nat×α)} {w:Option (α×Nat)} {i:Nat} {a:α} (hi:i≤2001) (h:LoopAt step w i a 0) {j:Nat} {b:α} {e:Int} (hj:e=0→i < j) (hs:step i a=if e=0 then some (false,j,b) else none):LoopAt step w j b e:=by
 obtain ⟨c,hc,e1⟩:=h.unroll hi
 unfold LoopAt
 split
 · rename_i h0
   rw [if_pos h0] at hs
   rw [hs] at e1
   exact ⟨c+1,by have:=hj h0; omega,e1⟩
 · rename_i h0
   rw [if_neg h0] at hs
   rw [hs] at e1
   exact e1
theorem LoopAt.bad {α:Type} {step:Nat→α→Option (Bool×Nat×α)} {w:Option (α×Nat)} {i:Nat} {a:α} {e:Int} (h:LoopAt step w i a e) (he:e≠0):w=none:=by
 unfold LoopAt at h
 rwa [if_neg he] at h
def rem (L:List Tok) (i:Nat) (e:Int):Nat:=if e=0 then L.length - i else 0
abbrev LQ {β:Type} (I:Nat→List AV→St→Prop) (mm:Nat) (K:Nat→Out→Option β) (Q:β→Prop):Out→Prop:=fun o=>(∃ m' fr' st',o=(Ex.normal,fr',st')∧m' < mm∧I m' fr' st')∨(o.1≠Ex.normal∧WC (fun n=>K n o) Q)
end Go.Cb.CodeA
set_option maxRecDepth 20000
set_option linter.unusedSimpArgs false
set_option linter.unusedVariables false
namespace Go.Cb.CodeA
open Go Go.Cb
attribute [local congr] i7 j1 j2 j3 j0 i8 k6 j9 V.runR_congr
variable {B:St}
inductive TRef where
 | base (n:List Nat) (b:Bool)
 | wrap (t:TRef) (b:Bool)
def TRef.row:TRef→List AV
 | .base n b=>[.str n,.list false [],.bool b]
 | .wrap t b=>[.str [],.list false [t.row],.bool b]
theorem TRef.row_cells (t:TRef):∃ n xs b,t.row=[.str n,.list false xs,.bool b]:=by cases t <;> exact ⟨_,_,_,rfl⟩
end Go.Cb.CodeA
set_option maxRecDepth 20000
set_option linter.unusedSimpArgs false
set_option linter.unusedVariables false
namespace Go.Cb.CodeA
open Go Go.Cb
attribute [local congr] i7 j1 j2 j3 j0 i8 k6 j9 V.runR_congr
variable {B:St}
inductive Val where
 | mk (k n:Int) (s:List Nat) (ks:List (List Nat)) (ls:List Val)
def e8 (x:List Nat):List AV:=[.str x]
mutual
def Val.row:Val→List AV
 | .mk k n s ks ls=>[.int .u8 k,.int .i64 n,.str s,.list false (ks.map e8),.list false (Val.rows ls)]
def Val.rows:List Val→List (List AV)
 | []=>[]
 | v::vs=>v.row::Val.rows vs
end
theorem Val.rows_map:∀ vs:List Val,Val.rows vs=vs.map Val.row
 | []=>by simp [Val.rows]
 | v::vs=>by simp [Val.rows,Val.rows_map vs]
inductive Val.OK:Val→Prop
 | mk (k n:Int) (s:List Nat) (ks:List (List Nat)) (ls:List Val) (h6:k=6→ks.length=ls.length) (hk:ks.length≤3000) (hl:ls.length≤3000) (h:∀ v∈ls,Val.OK v):Val.OK (.mk k n s ks ls)
theorem Val.row_eq (k n:Int) (s:List Nat) (ks:List (List Nat)) (ls:List Val):(Val.mk k n s ks ls).row=[.int .u8 k,.int .i64 n,.str s,.list false (ks.map e8),.list false (ls.map Val.row)]:=by
 rw [Val.row,Val.rows_map]
theorem Val.row_cells (v:Val):∃ k n s xs ys,v.row=[.int .u8 k,.int .i64 n,.str s,.list false xs,.list false ys]:=by
 cases v; exact ⟨_,_,_,_,_,Val.row_eq _ _ _ _ _⟩
theorem Val.simple (k n:Int) (s:List Nat) (h:k≠6):(Val.mk k n s [] []).OK∧(Val.mk k n s [] []).row=[.int .u8 k,.int .i64 n,.str s,.list false [],.list false []] :=
 ⟨.mk _ _ _ _ _ (fun e=>absurd e h) (by simp) (by simp) (by simp),by rw [Val.row_eq]; rfl⟩
theorem a0U (l:List Val):l3 5 (l.map Val.row)=true:=U9 (by
 intro r hr
 obtain ⟨v,_,rfl⟩:=List.mem_map.1 hr
 obtain ⟨_,_,_,_,_,e⟩:=v.row_cells
 rw [e]
 rfl)
theorem a2e (l:List (List Nat)):l3 1 (l.map e8)=true:=U9 (by
 intro r hr
 obtain ⟨v,_,rfl⟩:=List.mem_map.1 hr
 rfl)
end Go.Cb.CodeA
