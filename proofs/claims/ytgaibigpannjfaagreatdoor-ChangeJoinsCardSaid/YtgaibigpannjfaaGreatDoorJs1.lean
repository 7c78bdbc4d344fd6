import Derived.Test.YtgaibigpannjfaaGreatDoorJP
import Derived.Test.YtgaibigpannjfaaGreatDoorXs1
import Derived.Test.YtgaibigpannjfaaGreatDoorXAms4
import Derived.Test.YtgaibigpannjfaaGreatDoorShR
import Derived.KernelRfl
set_option maxRecDepth 100000
set_option linter.all false
namespace Go.Cb.CodeA
open Go Go.Cb Go.Cb.G
def J1 {α:Type} (k:List Nat) (v:α):List (List Nat)→List α→List (List Nat)×List α
 | x::xs,y::ys=>bif m9 x k then(x::(J1 k v xs ys).1,y::(J1 k v xs ys).2)else bif eqN x k then(k::xs,v::ys)else(k::x::xs,v::y::ys)
 | _,_=>([k],[v])
theorem a7l {α β:Type} (f:α→β) (k:List Nat) (v:α):∀ (ks:List (List Nat)) (ls:List α),J1 k (f v) ks (ls.map f)=((J1 k v ks ls).1,(J1 k v ks ls).2.map f)
 | [],_=>by simp[J1]
 | _::_,[]=>by simp[J1]
 | x::xs,y::ys=>by rw[List.map_cons,J1,J1,a7l f k v xs ys];cases m9 x k<;>cases eqN x k<;>rfl
def M3:List (List Nat)→List (List (List Nat))
 | []=>[[]]
 | a::l=>M3 l++(M3 l).map (a::·)
theorem J5:∀ {l ks:List (List Nat)},ks.Sublist l→ks∈M3 l
 | _,_,.slnil=>by simp[M3]
 | _,_,.cons a h=>List.mem_append_left _ (J5 h)
 | _,_,.cons_cons a h=>List.mem_append_right _ (List.mem_map.2 ⟨_,J5 h,rfl⟩)
structure Rw where
 k:Int
 n:Int
 s:List Nat
 xs:List (List AV)
 ys:List (List AV)
def Rw.row (r:Rw):List AV:=[.int .u8 r.k,.int .i64 r.n,.str r.s,.list false r.xs,.list false r.ys]
def g8 (R:Nat→Rw) (n:Nat):List (List AV):=(List.range n).map fun i=>(R i).row
def c3L:List Nat:=[110,97,109,101]
def m5:List Nat:=[97,103,101]
def s7:List Nat:=[80,101,114,115,111,110]
theorem cvt {P Q:Prop} (h:P) (e:P=Q):Q:=Eq.mp e h
theorem d3K {es:List Ent} {v:AV} {st:St} (h:EntsAt v es st) (hs:j0 es) (hl:es.length≤100000) {id:List Nat} {o:Option Ent} (hg:n9 es id=o):Ev e7 176 [.agg [v],.str id] st (.tuple [.agg (o.getD Ent.none).row,.bool o.isSome]) st:=by subst hg;exact((b56 h hs hl id).mono fun _ _ h=>⟨h.2,h.1⟩).to_ev
theorem Q6 {es:List Ent} {x:Ent} (h:C4 x.id es=false):(i8 es x).length=es.length+1:=by have i:=a9e x.id es;rw[i8,if_neg (by rw[h]; decide)];simp;omega
theorem a1m {es:List Ent} {x:Ent} (h:C4 x.id es=true):(i8 es x).length=es.length:=by rw[i8,if_pos h,List.length_set]
theorem o9 {es:List Ent} {n o:Nat} {st:St} (hn:es.length=n) (h:st[o]?=some (.cells (l6 es))) (hs:j0 es) (hl:es.length≤100000) {id:List Nat} {r:Option Ent} (hg:n9 es id=r):Ev e7 176 [.agg [.sl o 0 n 4],.str id] st (.tuple [.agg (r.getD Ent.none).row,.bool r.isSome]) st:=by subst hn;exact d3K (.inr ⟨o,rfl,h⟩) hs hl hg
theorem a4o {es:List Ent} {n o k:Nat} {st:St} {x:Ent} (hn:es.length=n) (h:st[o]?=some (.cells (l6 es))) (hs:j0 es) (hl:es.length≤100000) (i:C4 x.id es=false) (hk:st.length=k):Ev e7 16 [.agg [.sl o 0 n 4],.agg x.row] st (.agg [.sl (k+1) 0 (n+1) 4]) (st++[.dead,.cells (l6 (i8 es x))]):=by subst hn;subst hk;have h:=(b0v (.inr ⟨o,rfl,h⟩) hs hl x).to_ev;rw[b0j i,Q6 i]at h;exact h
theorem b0b {es:List Ent} {n o k:Nat} {st:St} {x:Ent} (hn:es.length=n) (h:st[o]?=some (.cells (l6 es))) (hs:j0 es) (hl:es.length≤100000) (i:C4 x.id es=true) (hk:st.length=k):Ev e7 16 [.agg [.sl o 0 n 4],.agg x.row] st (.agg [.sl k 0 n 4]) (st++[.cells (l6 (i8 es x))]):=by subst hn;subst hk;have h:=(b0v (.inr ⟨o,rfl,h⟩) hs hl x).to_ev;rw[b1I i,a1m i]at h;exact h
theorem b73:∀ ls:List Val,∃ R:Nat→Rw,ls.map Val.row=g8 R ls.length:=fun ls=>by
 have h:∀ v:Val,∃ r:Rw,v.row=r.row:=fun v=>by obtain⟨k,n,s,xs,ys,e⟩:=v.row_cells;exact⟨⟨k,n,s,xs,ys⟩,e⟩
 refine⟨fun i=>if hi:i < ls.length then Classical.choose (h ls[i])else⟨0,0,[],[],[]⟩,?_⟩;unfold g8;refine List.ext_getElem (by simp) fun i j l=>?_
 have hi:i < ls.length:=by simpa using j
 simp only[List.getElem_map,List.getElem_range,dif_pos hi];exact Classical.choose_spec (h ls[i])
theorem a0j {es:List Ent} {n o k:Nat} {st:St} (hn:es.length=n) (h:st[o]?=some (.cells (l6 es))) (hs:j0 es) (hl:es.length≤100000) {id:List Nat} (i:C4 id es=true) (hk:st.length=k):Ev e7 115 [.agg [.sl o 0 n 4],.str id] st (.agg [.sl (k+1) 0 (n - 1) 4]) (st++[.dead,.cells (l6 (l8 es id))]):=by subst hk;subst hn;exact(b78 h hs hl i).to_ev
def Z3:List Nat:=[67,97,116]
def a3X:List Nat:=[68,111,103]
def a1J:List Nat:=[102,114,105,101,110,100,115]
def vI (m:Int):Val:=.mk 1 m [] [] []
def vF:Val:=.mk 5 0 [] [] [.mk 8 0 [97] [] []]
def i6 (m:Int):List AV:=[.int .u8 1,.int .i64 m,.str [],.list false [],.list false []]
def l9:List AV:=[.int .u8 5,.int .i64 0,.str [],.list false [],.list false [[.int .u8 8,.int .i64 0,.str [97],.list false [],.list false []]]]
def E5:Ent:=⟨a3X,[97],[[98,97,114,107,115]],[.mk 3 1 [] [] []]⟩
def E0:Ent:=⟨Z3,[98],[[108,105,118,101,115],c3L,[111,119,110,101,114]],[vI 2,.mk 2 0 [81] [] [],.mk 8 0 [97] [] []]⟩
def up1 {α:Type} (a:α) (ks:List (List Nat)) (ls:List α):=J1 m5 a ks ls
def up2 {α:Type} (a b:α) (ks:List (List Nat)) (ls:List α):=J1 a1J b (up1 a ks ls).1 (up1 a ks ls).2
def r8 (ks:List (List Nat)) (ls:List Val):Ent:=⟨s7,[99],(up2 (vI 5) vF ks ls).1,(up2 (vI 5) vF ks ls).2⟩
theorem d17:vF.row=l9:=by rw[vF,Val.row]; simp only[Val.rows,Val.row0]; rfl
theorem a5e (m:Int):(vI m).row=i6 m:=by rw[vI,Val.row0]; rfl
theorem a5R {R:Nat→Rw} {ks:List (List Nat)} {ls:List Val} (j:ls.map Val.row=g8 R ks.length):up2 (i6 5) l9 ks (g8 R ks.length)=((r8 ks ls).ks,(r8 ks ls).ls.map Val.row):=by
 have i:up1 (i6 5) ks (g8 R ks.length)=((up1 (vI 5) ks ls).1,(up1 (vI 5) ks ls).2.map Val.row):=by unfold up1; rw[← j,← a5e,a7l]
 unfold up2;rw[i,← d17,a7l];rfl
abbrev vJ (es es2:List Ent) (m k:Int) (al:List Nat) (y0 y1:AV) (t:List Nat) (D:List AV) (K L K1 L1 K2 L2:List (List AV)):Lt:=⟨es.length,m,k,k+1,k+2,al,y0,y1,t,l6 es,l6 es2,D,K,L,K1,L1,K2,L2⟩
theorem a0k {es:List Ent} {id:List Nat} (h:n9 es id=none):C4 id es=false:=by rw[a4A,h]; rfl
theorem S6 {es:List Ent} {id:List Nat} {e:Ent} (h:n9 es id=some e):C4 id es=true:=by rw[a4A,h]; rfl
theorem d9h (v:Lt):((@p4 v))[31]?=some (.cells v.C):=by kernel_rfl
theorem d8k (v:Lt):((@p8 v))[31]?=some (.cells v.C):=by kernel_rfl
theorem e0a (v:Lt):((@p8 v)).length=43:=by kernel_rfl
theorem e0W (v:Lt):((@p23 v))[44]?=some (.cells v.C2):=by kernel_rfl
theorem d9P (es i:List Ent) (m:Int) (al:List Nat) (y0 y1:AV) (t:List Nat) (D:List AV) (K L K1 L1 K2 L2:List (List AV)):callG e7 400 264 [k46] (@p35 (vJ es i m 1 al y0 y1 t D K L K1 L1 K2 L2))=some (k28,((@p35 (vJ es i m 1 al y0 y1 t D K L K1 L1 K2 L2)).set 45 ((@p45 (vJ es i m 1 al y0 y1 t D K L K1 L1 K2 L2))))):=by kernel_rfl
theorem d97 (es i:List Ent) (m:Int) (al:List Nat) (y0 y1:AV) (t:List Nat) (D:List AV) (K L K1 L1 K2 L2:List (List AV)):callG e7 400 264 [k46] (@p35 (vJ es i m 2 al y0 y1 t D K L K1 L1 K2 L2))=some (k28,((@p35 (vJ es i m 2 al y0 y1 t D K L K1 L1 K2 L2)).set 45 ((@p45 (vJ es i m 2 al y0 y1 t D K L K1 L1 K2 L2))))):=by kernel_rfl
theorem d9r (es i:List Ent) (m:Int) (al:List Nat) (y0 y1:AV) (t:List Nat) (D:List AV) (K L K1 L1 K2 L2:List (List AV)):callG e7 400 264 [k46] (@p35 (vJ es i m 3 al y0 y1 t D K L K1 L1 K2 L2))=some (k28,((@p35 (vJ es i m 3 al y0 y1 t D K L K1 L1 K2 L2)).set 45 ((@p45 (vJ es i m 3 al y0 y1 t D K L K1 L1 K2 L2))))):=by kernel_rfl
theorem sQ7 (es i:List Ent) (m k:Int) (hk:k=1∨k=2∨k=3) (al:List Nat) (y0 y1:AV) (t:List Nat) (D:List AV) (K L K1 L1 K2 L2:List (List AV)):@Q7 (vJ es i m k al y0 y1 t D K L K1 L1 K2 L2):=by
 rcases hk with rfl|rfl|rfl
 · exact ev_ofG (k:=400) (d9P es i m al y0 y1 t D K L K1 L1 K2 L2)
 · exact ev_ofG (k:=400) (d97 es i m al y0 y1 t D K L K1 L1 K2 L2)
 · exact ev_ofG (k:=400) (d9r es i m al y0 y1 t D K L K1 L1 K2 L2)
theorem e0e (v:Lt):((((@p4 v).set 31 (.cells v.C)).set 32 ((@p0 v))))[31]?=some (.cells v.C):=by kernel_rfl
theorem d9d (v:Lt):((@p88 v))[31]?=some (.cells v.C):=by kernel_rfl
theorem e0B (v:Lt):((@p93 v))[31]?=some (.cells v.C):=by kernel_rfl
theorem e1y (v:Lt):((@p93 v)).length=49:=by kernel_rfl
theorem d8M (v:Lt):((@a2T v))[50]?=some (.cells v.C2):=by kernel_rfl
theorem d2J (es i:List Ent) (m:Int) (al:List Nat) (y0 y1:AV) (t:List Nat) (D:List AV) (K L K1 L1 K2 L2:List (List AV)):callG e7 400 264 [k40] (@p120 (vJ es i m 1 al y0 y1 t D K L K1 L1 K2 L2))=some (k28,((@p120 (vJ es i m 1 al y0 y1 t D K L K1 L1 K2 L2)).set 51 ((@a7p (vJ es i m 1 al y0 y1 t D K L K1 L1 K2 L2))))):=by kernel_rfl
theorem d2e (es i:List Ent) (m:Int) (al:List Nat) (y0 y1:AV) (t:List Nat) (D:List AV) (K L K1 L1 K2 L2:List (List AV)):callG e7 400 264 [k40] (@p120 (vJ es i m 2 al y0 y1 t D K L K1 L1 K2 L2))=some (k28,((@p120 (vJ es i m 2 al y0 y1 t D K L K1 L1 K2 L2)).set 51 ((@a7p (vJ es i m 2 al y0 y1 t D K L K1 L1 K2 L2))))):=by kernel_rfl
theorem c8N (es i:List Ent) (m:Int) (al:List Nat) (y0 y1:AV) (t:List Nat) (D:List AV) (K L K1 L1 K2 L2:List (List AV)):callG e7 400 264 [k40] (@p120 (vJ es i m 3 al y0 y1 t D K L K1 L1 K2 L2))=some (k28,((@p120 (vJ es i m 3 al y0 y1 t D K L K1 L1 K2 L2)).set 51 ((@a7p (vJ es i m 3 al y0 y1 t D K L K1 L1 K2 L2))))):=by kernel_rfl
theorem e8E (es i:List Ent) (m k:Int) (hk:k=1∨k=2∨k=3) (al:List Nat) (y0 y1:AV) (t:List Nat) (D:List AV) (K L K1 L1 K2 L2:List (List AV)):@Q24 (vJ es i m k al y0 y1 t D K L K1 L1 K2 L2):=by
 rcases hk with rfl|rfl|rfl
 · exact ev_ofG (k:=400) (d2J es i m al y0 y1 t D K L K1 L1 K2 L2)
 · exact ev_ofG (k:=400) (d2e es i m al y0 y1 t D K L K1 L1 K2 L2)
 · exact ev_ofG (k:=400) (c8N es i m al y0 y1 t D K L K1 L1 K2 L2)
theorem e01 (v:Lt):((((@p88 v).set 31 (.cells v.C)).set 32 ((@p0 v))))[31]?=some (.cells v.C):=by kernel_rfl
theorem d0i (v:Lt):((@p168 v))[31]?=some (.cells v.C):=by kernel_rfl
theorem d2M (v:Lt):((((@p168 v).set 31 (.cells v.C)).set 32 ((@p0 v))))[31]?=some (.cells v.C):=by kernel_rfl
theorem d2K (v:Lt):((@p178 v))[31]?=some (.cells v.C):=by kernel_rfl
theorem d45 (v:Lt):(((@p178 v).set 31 (.cells v.C)))[31]?=some (.cells v.C):=by kernel_rfl
noncomputable def d72 (al:List Nat) (y0 y1:AV) (D:List AV) (k:Int) (es i:List Ent) (R:Nat→Rw) (ks:List (List Nat)):=callG e7 400 179 [(@b3W (vJ es i 0 k al y0 y1 [] D (ks.map b9) (g8 R ks.length) ((up1 (i6 5) ks (g8 R ks.length)).1.map b9) (up1 (i6 5) ks (g8 R ks.length)).2 ((up2 (i6 5) l9 ks (g8 R ks.length)).1.map b9) (up2 (i6 5) l9 ks (g8 R ks.length)).2)),k95,b5f] (@b4J (vJ es i 0 k al y0 y1 [] D (ks.map b9) (g8 R ks.length) ((up1 (i6 5) ks (g8 R ks.length)).1.map b9) (up1 (i6 5) ks (g8 R ks.length)).2 ((up2 (i6 5) l9 ks (g8 R ks.length)).1.map b9) (up2 (i6 5) l9 ks (g8 R ks.length)).2))
def e0I (al:List Nat) (y0 y1:AV) (D:List AV) (k:Int) (es i:List Ent) (R:Nat→Rw) (ks:List (List Nat)):Option (AV×St):=some ((@b0r (vJ es i 0 k al y0 y1 [] D (ks.map b9) (g8 R ks.length) ((up1 (i6 5) ks (g8 R ks.length)).1.map b9) (up1 (i6 5) ks (g8 R ks.length)).2 ((up2 (i6 5) l9 ks (g8 R ks.length)).1.map b9) (up2 (i6 5) l9 ks (g8 R ks.length)).2)),(@a8f (vJ es i 0 k al y0 y1 [] D (ks.map b9) (g8 R ks.length) ((up1 (i6 5) ks (g8 R ks.length)).1.map b9) (up1 (i6 5) ks (g8 R ks.length)).2 ((up2 (i6 5) l9 ks (g8 R ks.length)).1.map b9) (up2 (i6 5) l9 ks (g8 R ks.length)).2)))
theorem e5t (al:List Nat) (y0 y1:AV) (D:List AV) (k:Int) (es i:List Ent) (R:Nat→Rw):(M3 personK).map (d72 al y0 y1 D k es i R)=(M3 personK).map (e0I al y0 y1 D k es i R):=by kernel_rfl
noncomputable def d87 (al:List Nat) (y0 y1:AV) (D:List AV) (k:Int) (es i:List Ent) (R:Nat→Rw) (ks:List (List Nat)):=callG e7 400 179 (@b5T (vJ es i 0 k al y0 y1 [] D (ks.map b9) (g8 R ks.length) ((up1 (i6 5) ks (g8 R ks.length)).1.map b9) (up1 (i6 5) ks (g8 R ks.length)).2 ((up2 (i6 5) l9 ks (g8 R ks.length)).1.map b9) (up2 (i6 5) l9 ks (g8 R ks.length)).2)) (@b4B (vJ es i 0 k al y0 y1 [] D (ks.map b9) (g8 R ks.length) ((up1 (i6 5) ks (g8 R ks.length)).1.map b9) (up1 (i6 5) ks (g8 R ks.length)).2 ((up2 (i6 5) l9 ks (g8 R ks.length)).1.map b9) (up2 (i6 5) l9 ks (g8 R ks.length)).2))
def d8X (al:List Nat) (y0 y1:AV) (D:List AV) (k:Int) (es i:List Ent) (R:Nat→Rw) (ks:List (List Nat)):Option (AV×St):=some ((@a2R (vJ es i 0 k al y0 y1 [] D (ks.map b9) (g8 R ks.length) ((up1 (i6 5) ks (g8 R ks.length)).1.map b9) (up1 (i6 5) ks (g8 R ks.length)).2 ((up2 (i6 5) l9 ks (g8 R ks.length)).1.map b9) (up2 (i6 5) l9 ks (g8 R ks.length)).2)),(@a3S (vJ es i 0 k al y0 y1 [] D (ks.map b9) (g8 R ks.length) ((up1 (i6 5) ks (g8 R ks.length)).1.map b9) (up1 (i6 5) ks (g8 R ks.length)).2 ((up2 (i6 5) l9 ks (g8 R ks.length)).1.map b9) (up2 (i6 5) l9 ks (g8 R ks.length)).2)))
theorem e9j (al:List Nat) (y0 y1:AV) (D:List AV) (k:Int) (es i:List Ent) (R:Nat→Rw):(M3 personK).map (d87 al y0 y1 D k es i R)=(M3 personK).map (d8X al y0 y1 D k es i R):=by kernel_rfl
theorem d1e (v:Lt):((@a3S v))[31]?=some (.cells v.C):=by kernel_rfl
theorem d6j (v:Lt):((@a3S v)).length=46:=by kernel_rfl
theorem d1T (v:Lt):((@a3o v))[46]?=some (.cells v.C2):=by kernel_rfl
theorem c98 (es i:List Ent) (m:Int) (al:List Nat) (y0 y1:AV) (t:List Nat) (D:List AV) (K L K1 L1 K2 L2:List (List AV)):callG e7 400 264 [k48] (@p219 (vJ es i m 1 al y0 y1 t D K L K1 L1 K2 L2))=some (k28,((@p219 (vJ es i m 1 al y0 y1 t D K L K1 L1 K2 L2)).set 47 ((@a0w (vJ es i m 1 al y0 y1 t D K L K1 L1 K2 L2))))):=by kernel_rfl
theorem d2L (es i:List Ent) (m:Int) (al:List Nat) (y0 y1:AV) (t:List Nat) (D:List AV) (K L K1 L1 K2 L2:List (List AV)):callG e7 400 264 [k48] (@p219 (vJ es i m 2 al y0 y1 t D K L K1 L1 K2 L2))=some (k28,((@p219 (vJ es i m 2 al y0 y1 t D K L K1 L1 K2 L2)).set 47 ((@a0w (vJ es i m 2 al y0 y1 t D K L K1 L1 K2 L2))))):=by kernel_rfl
theorem d0s (es i:List Ent) (m:Int) (al:List Nat) (y0 y1:AV) (t:List Nat) (D:List AV) (K L K1 L1 K2 L2:List (List AV)):callG e7 400 264 [k48] (@p219 (vJ es i m 3 al y0 y1 t D K L K1 L1 K2 L2))=some (k28,((@p219 (vJ es i m 3 al y0 y1 t D K L K1 L1 K2 L2)).set 47 ((@a0w (vJ es i m 3 al y0 y1 t D K L K1 L1 K2 L2))))):=by kernel_rfl
theorem e5b (es i:List Ent) (m k:Int) (hk:k=1∨k=2∨k=3) (al:List Nat) (y0 y1:AV) (t:List Nat) (D:List AV) (K L K1 L1 K2 L2:List (List AV)):@Q49 (vJ es i m k al y0 y1 t D K L K1 L1 K2 L2):=by
 rcases hk with rfl|rfl|rfl
 · exact ev_ofG (k:=400) (c98 es i m al y0 y1 t D K L K1 L1 K2 L2)
 · exact ev_ofG (k:=400) (d2L es i m al y0 y1 t D K L K1 L1 K2 L2)
 · exact ev_ofG (k:=400) (d0s es i m al y0 y1 t D K L K1 L1 K2 L2)
noncomputable def e1i (al:List Nat) (y0 y1:AV) (D:List AV) (k:Int) (es i:List Ent) (R:Nat→Rw) (ks:List (List Nat)):=callG e7 400 105 [(@b5m (vJ es i 0 k al y0 y1 [] D (ks.map b9) (g8 R ks.length) ((up1 (i6 5) ks (g8 R ks.length)).1.map b9) (up1 (i6 5) ks (g8 R ks.length)).2 ((up2 (i6 5) l9 ks (g8 R ks.length)).1.map b9) (up2 (i6 5) l9 ks (g8 R ks.length)).2)),k95] ((@p219 (vJ es i 0 k al y0 y1 [] D (ks.map b9) (g8 R ks.length) ((up1 (i6 5) ks (g8 R ks.length)).1.map b9) (up1 (i6 5) ks (g8 R ks.length)).2 ((up2 (i6 5) l9 ks (g8 R ks.length)).1.map b9) (up2 (i6 5) l9 ks (g8 R ks.length)).2)).set 47 ((@a0w (vJ es i 0 k al y0 y1 [] D (ks.map b9) (g8 R ks.length) ((up1 (i6 5) ks (g8 R ks.length)).1.map b9) (up1 (i6 5) ks (g8 R ks.length)).2 ((up2 (i6 5) l9 ks (g8 R ks.length)).1.map b9) (up2 (i6 5) l9 ks (g8 R ks.length)).2))))
def e1B (al:List Nat) (y0 y1:AV) (D:List AV) (k:Int) (es i:List Ent) (R:Nat→Rw) (ks:List (List Nat)):Option (AV×St):=some (a8w,((@p219 (vJ es i 0 k al y0 y1 [] D (ks.map b9) (g8 R ks.length) ((up1 (i6 5) ks (g8 R ks.length)).1.map b9) (up1 (i6 5) ks (g8 R ks.length)).2 ((up2 (i6 5) l9 ks (g8 R ks.length)).1.map b9) (up2 (i6 5) l9 ks (g8 R ks.length)).2)).set 47 ((@a0w (vJ es i 0 k al y0 y1 [] D (ks.map b9) (g8 R ks.length) ((up1 (i6 5) ks (g8 R ks.length)).1.map b9) (up1 (i6 5) ks (g8 R ks.length)).2 ((up2 (i6 5) l9 ks (g8 R ks.length)).1.map b9) (up2 (i6 5) l9 ks (g8 R ks.length)).2)))))
theorem e2Z (al:List Nat) (y0 y1:AV) (D:List AV) (k:Int) (es i:List Ent) (R:Nat→Rw):(M3 personK).map (e1i al y0 y1 D k es i R)=(M3 personK).map (e1B al y0 y1 D k es i R):=by kernel_rfl
theorem c9C (v:Lt):((@p273 v))[31]?=some (.cells v.C):=by kernel_rfl
theorem d0t (v:Lt):((((@p273 v).set 31 (.cells v.C)).set 32 ((@p0 v))))[31]?=some (.cells v.C):=by kernel_rfl
theorem d4B (v:Lt):((@p283 v))[31]?=some (.cells v.C):=by kernel_rfl
theorem b6P (v:Lt):(((@p283 v).set 31 (.cells v.C)))[31]?=some (.cells v.C):=by kernel_rfl
theorem b7u (v:Lt):((@a0P v))[31]?=some (.cells v.C):=by kernel_rfl
theorem c93 (es i:List Ent) (m:Int) (al:List Nat) (y0 y1:AV) (t:List Nat) (D:List AV) (K L K1 L1 K2 L2:List (List AV)):callG e7 400 264 [C5] (@p295 (vJ es i m 1 al y0 y1 t D K L K1 L1 K2 L2))=some (k28,((@p295 (vJ es i m 1 al y0 y1 t D K L K1 L1 K2 L2)).set 38 ((@l5 (vJ es i m 1 al y0 y1 t D K L K1 L1 K2 L2))))):=by kernel_rfl
theorem d2O (es i:List Ent) (m:Int) (al:List Nat) (y0 y1:AV) (t:List Nat) (D:List AV) (K L K1 L1 K2 L2:List (List AV)):callG e7 400 264 [C5] (@p295 (vJ es i m 2 al y0 y1 t D K L K1 L1 K2 L2))=some (k28,((@p295 (vJ es i m 2 al y0 y1 t D K L K1 L1 K2 L2)).set 38 ((@l5 (vJ es i m 2 al y0 y1 t D K L K1 L1 K2 L2))))):=by kernel_rfl
theorem d6W (es i:List Ent) (m:Int) (al:List Nat) (y0 y1:AV) (t:List Nat) (D:List AV) (K L K1 L1 K2 L2:List (List AV)):callG e7 400 264 [C5] (@p295 (vJ es i m 3 al y0 y1 t D K L K1 L1 K2 L2))=some (k28,((@p295 (vJ es i m 3 al y0 y1 t D K L K1 L1 K2 L2)).set 38 ((@l5 (vJ es i m 3 al y0 y1 t D K L K1 L1 K2 L2))))):=by kernel_rfl
theorem d2P (es i:List Ent) (m k:Int) (hk:k=1∨k=2∨k=3) (al:List Nat) (y0 y1:AV) (t:List Nat) (D:List AV) (K L K1 L1 K2 L2:List (List AV)):@Q71 (vJ es i m k al y0 y1 t D K L K1 L1 K2 L2):=by
 rcases hk with rfl|rfl|rfl
 · exact ev_ofG (k:=400) (c93 es i m al y0 y1 t D K L K1 L1 K2 L2)
 · exact ev_ofG (k:=400) (d2O es i m al y0 y1 t D K L K1 L1 K2 L2)
 · exact ev_ofG (k:=400) (d6W es i m al y0 y1 t D K L K1 L1 K2 L2)
noncomputable def d9E (al:List Nat) (y0 y1:AV) (D:List AV) (k:Int) (es i:List Ent) (m:Int) (j:List (List AV)) (ks:List (List Nat)):=callG e7 400 105 [(@a4V (vJ es i m k al y0 y1 [] D ((m5::ks).map b9) (i6 m::j) [] [] [] [])),k95] ((@p295 (vJ es i m k al y0 y1 [] D ((m5::ks).map b9) (i6 m::j) [] [] [] [])).set 38 ((@l5 (vJ es i m k al y0 y1 [] D ((m5::ks).map b9) (i6 m::j) [] [] [] []))))
def e0T (al:List Nat) (y0 y1:AV) (D:List AV) (k:Int) (es i:List Ent) (m:Int) (j:List (List AV)) (ks:List (List Nat)):Option (AV×St):=some ((@a5h (vJ es i m k al y0 y1 [] D ((m5::ks).map b9) (i6 m::j) [] [] [] [])),((@p295 (vJ es i m k al y0 y1 [] D ((m5::ks).map b9) (i6 m::j) [] [] [] [])).set 38 ((@l5 (vJ es i m k al y0 y1 [] D ((m5::ks).map b9) (i6 m::j) [] [] [] [])))))
theorem e8m (al:List Nat) (y0 y1:AV) (D:List AV) (k:Int) (es i:List Ent) (m:Int) (j:List (List AV)):(M3 personK.tail).map (d9E al y0 y1 D k es i m j)=(M3 personK.tail).map (e0T al y0 y1 D k es i m j):=by kernel_rfl
theorem c9d (v:Lt):((((@p306 v).set 40 ((@C7 v))).set 32 ((@a5B v))))[31]?=some (.cells v.C):=by kernel_rfl
theorem d7g (v:Lt):((((@p306 v).set 40 ((@C7 v))).set 32 ((@a5B v)))).length=49:=by kernel_rfl
noncomputable def d76 (al:List Nat) (y0 y1:AV) (D:List AV) (k:Int) (es i:List Ent) (j:List (List AV)) (ks:List (List Nat)):=callG e7 400 105 [(@a4V (vJ es i 0 k al y0 y1 [] D (ks.map b9) j [] [] [] [])),k95] ((@p295 (vJ es i 0 k al y0 y1 [] D (ks.map b9) j [] [] [] [])).set 38 ((@l5 (vJ es i 0 k al y0 y1 [] D (ks.map b9) j [] [] [] []))))
def d8F (al:List Nat) (y0 y1:AV) (D:List AV) (k:Int) (es i:List Ent) (j:List (List AV)) (ks:List (List Nat)):Option (AV×St):=some (b3R,((@p295 (vJ es i 0 k al y0 y1 [] D (ks.map b9) j [] [] [] [])).set 38 ((@l5 (vJ es i 0 k al y0 y1 [] D (ks.map b9) j [] [] [] [])))))
theorem e6f (al:List Nat) (y0 y1:AV) (D:List AV) (k:Int) (es i:List Ent) (j:List (List AV)):(M3 personK.tail).map (d76 al y0 y1 D k es i j)=(M3 personK.tail).map (d8F al y0 y1 D k es i j):=by kernel_rfl
theorem d0m (v:Lt):((@a8j v))[31]?=some (.cells v.C):=by kernel_rfl
theorem d0u (v:Lt):((@a8j v)).length=47:=by kernel_rfl
theorem d2p (v:Lt):((@p362 v))[31]?=some (.cells v.C):=by kernel_rfl
theorem d5r (v:Lt):((((@p362 v).set 31 (.cells v.C)).set 32 ((@p0 v))))[31]?=some (.cells v.C):=by kernel_rfl
theorem d6x (v:Lt):((@p372 v))[31]?=some (.cells v.C):=by kernel_rfl
theorem d5v (v:Lt):(((@p372 v).set 31 (.cells v.C)))[31]?=some (.cells v.C):=by kernel_rfl
theorem d4k (v:Lt):((@a2V v))[31]?=some (.cells v.C):=by kernel_rfl
theorem c6l (es i:List Ent) (m:Int) (al:List Nat) (y0 y1:AV) (t:List Nat) (D:List AV) (K L K1 L1 K2 L2:List (List AV)):callG e7 400 264 [C5] (@p389 (vJ es i m 1 al y0 y1 t D K L K1 L1 K2 L2))=some (k28,((@p389 (vJ es i m 1 al y0 y1 t D K L K1 L1 K2 L2)).set 38 ((@l5 (vJ es i m 1 al y0 y1 t D K L K1 L1 K2 L2))))):=by kernel_rfl
theorem c7R (es i:List Ent) (m:Int) (al:List Nat) (y0 y1:AV) (t:List Nat) (D:List AV) (K L K1 L1 K2 L2:List (List AV)):callG e7 400 264 [C5] (@p389 (vJ es i m 2 al y0 y1 t D K L K1 L1 K2 L2))=some (k28,((@p389 (vJ es i m 2 al y0 y1 t D K L K1 L1 K2 L2)).set 38 ((@l5 (vJ es i m 2 al y0 y1 t D K L K1 L1 K2 L2))))):=by kernel_rfl
theorem c4N (es i:List Ent) (m:Int) (al:List Nat) (y0 y1:AV) (t:List Nat) (D:List AV) (K L K1 L1 K2 L2:List (List AV)):callG e7 400 264 [C5] (@p389 (vJ es i m 3 al y0 y1 t D K L K1 L1 K2 L2))=some (k28,((@p389 (vJ es i m 3 al y0 y1 t D K L K1 L1 K2 L2)).set 38 ((@l5 (vJ es i m 3 al y0 y1 t D K L K1 L1 K2 L2))))):=by kernel_rfl
theorem d8e (es i:List Ent) (m k:Int) (hk:k=1∨k=2∨k=3) (al:List Nat) (y0 y1:AV) (t:List Nat) (D:List AV) (K L K1 L1 K2 L2:List (List AV)):@a8T (vJ es i m k al y0 y1 t D K L K1 L1 K2 L2):=by
 rcases hk with rfl|rfl|rfl
 · exact ev_ofG (k:=400) (c6l es i m al y0 y1 t D K L K1 L1 K2 L2)
 · exact ev_ofG (k:=400) (c7R es i m al y0 y1 t D K L K1 L1 K2 L2)
 · exact ev_ofG (k:=400) (c4N es i m al y0 y1 t D K L K1 L1 K2 L2)
theorem d49 (v:Lt):((@a8C v))[31]?=some (.cells v.C):=by kernel_rfl
theorem d6D (v:Lt):((@a8C v)).length=47:=by kernel_rfl
theorem d6M (v:Lt):((@p429 v))[31]?=some (.cells v.C):=by kernel_rfl
theorem d57 (v:Lt):((@b1h v))[31]?=some (.cells v.C):=by kernel_rfl
theorem d4c (v:Lt):((@b1h v)).length=44:=by kernel_rfl
theorem c7V (v:Lt):((@a3e v))[45]?=some (.cells v.C2):=by kernel_rfl
theorem c4j (es i:List Ent) (m:Int) (al:List Nat) (y0 y1:AV) (t:List Nat) (D:List AV) (K L K1 L1 K2 L2:List (List AV)):callG e7 400 264 [a0v] (@p439 (vJ es i m 1 al y0 y1 t D K L K1 L1 K2 L2))=some (k28,((@p439 (vJ es i m 1 al y0 y1 t D K L K1 L1 K2 L2)).set 46 ((@a7u (vJ es i m 1 al y0 y1 t D K L K1 L1 K2 L2))))):=by kernel_rfl
theorem c6M (es i:List Ent) (m:Int) (al:List Nat) (y0 y1:AV) (t:List Nat) (D:List AV) (K L K1 L1 K2 L2:List (List AV)):callG e7 400 264 [a0v] (@p439 (vJ es i m 2 al y0 y1 t D K L K1 L1 K2 L2))=some (k28,((@p439 (vJ es i m 2 al y0 y1 t D K L K1 L1 K2 L2)).set 46 ((@a7u (vJ es i m 2 al y0 y1 t D K L K1 L1 K2 L2))))):=by kernel_rfl
theorem c2D (es i:List Ent) (m:Int) (al:List Nat) (y0 y1:AV) (t:List Nat) (D:List AV) (K L K1 L1 K2 L2:List (List AV)):callG e7 400 264 [a0v] (@p439 (vJ es i m 3 al y0 y1 t D K L K1 L1 K2 L2))=some (k28,((@p439 (vJ es i m 3 al y0 y1 t D K L K1 L1 K2 L2)).set 46 ((@a7u (vJ es i m 3 al y0 y1 t D K L K1 L1 K2 L2))))):=by kernel_rfl
theorem d8f (es i:List Ent) (m k:Int) (hk:k=1∨k=2∨k=3) (al:List Nat) (y0 y1:AV) (t:List Nat) (D:List AV) (K L K1 L1 K2 L2:List (List AV)):@a8U (vJ es i m k al y0 y1 t D K L K1 L1 K2 L2):=by
 rcases hk with rfl|rfl|rfl
 · exact ev_ofG (k:=400) (c4j es i m al y0 y1 t D K L K1 L1 K2 L2)
 · exact ev_ofG (k:=400) (c6M es i m al y0 y1 t D K L K1 L1 K2 L2)
 · exact ev_ofG (k:=400) (c2D es i m al y0 y1 t D K L K1 L1 K2 L2)
theorem d0q (v:Lt):((((@p429 v).set 31 (.cells v.C)).set 32 ((@s9 v))))[31]?=some (.cells v.C):=by kernel_rfl
theorem c9z (v:Lt):((@p458 v))[31]?=some (.cells v.C):=by kernel_rfl
theorem d5M (v:Lt):((@b1B v))[31]?=some (.cells v.C):=by kernel_rfl
theorem d1W (v:Lt):((@b1B v)).length=50:=by kernel_rfl
theorem d5D (v:Lt):((@a3l v))[51]?=some (.cells v.C2):=by kernel_rfl
theorem c3f (es i:List Ent) (m:Int) (al:List Nat) (y0 y1:AV) (t:List Nat) (D:List AV) (K L K1 L1 K2 L2:List (List AV)):callG e7 400 264 [O3] (@p468 (vJ es i m 1 al y0 y1 t D K L K1 L1 K2 L2))=some (k28,((@p468 (vJ es i m 1 al y0 y1 t D K L K1 L1 K2 L2)).set 52 ((@a6W (vJ es i m 1 al y0 y1 t D K L K1 L1 K2 L2))))):=by kernel_rfl
theorem c3S (es i:List Ent) (m:Int) (al:List Nat) (y0 y1:AV) (t:List Nat) (D:List AV) (K L K1 L1 K2 L2:List (List AV)):callG e7 400 264 [O3] (@p468 (vJ es i m 2 al y0 y1 t D K L K1 L1 K2 L2))=some (k28,((@p468 (vJ es i m 2 al y0 y1 t D K L K1 L1 K2 L2)).set 52 ((@a6W (vJ es i m 2 al y0 y1 t D K L K1 L1 K2 L2))))):=by kernel_rfl
theorem c3K (es i:List Ent) (m:Int) (al:List Nat) (y0 y1:AV) (t:List Nat) (D:List AV) (K L K1 L1 K2 L2:List (List AV)):callG e7 400 264 [O3] (@p468 (vJ es i m 3 al y0 y1 t D K L K1 L1 K2 L2))=some (k28,((@p468 (vJ es i m 3 al y0 y1 t D K L K1 L1 K2 L2)).set 52 ((@a6W (vJ es i m 3 al y0 y1 t D K L K1 L1 K2 L2))))):=by kernel_rfl
theorem e05 (es i:List Ent) (m k:Int) (hk:k=1∨k=2∨k=3) (al:List Nat) (y0 y1:AV) (t:List Nat) (D:List AV) (K L K1 L1 K2 L2:List (List AV)):@a8l (vJ es i m k al y0 y1 t D K L K1 L1 K2 L2):=by
 rcases hk with rfl|rfl|rfl
 · exact ev_ofG (k:=400) (c3f es i m al y0 y1 t D K L K1 L1 K2 L2)
 · exact ev_ofG (k:=400) (c3S es i m al y0 y1 t D K L K1 L1 K2 L2)
 · exact ev_ofG (k:=400) (c3K es i m al y0 y1 t D K L K1 L1 K2 L2)
theorem d1C (v:Lt):((((@p458 v).set 31 (.cells v.C)).set 32 ((@s9 v))))[31]?=some (.cells v.C):=by kernel_rfl
theorem d6X (v:Lt):((@p487 v))[31]?=some (.cells v.C):=by kernel_rfl
theorem c85 (v:Lt):((((@p487 v).set 31 (.cells v.C)).set 32 ((@s9 v))))[31]?=some (.cells v.C):=by kernel_rfl
theorem d1v (v:Lt):((@p488 v))[31]?=some (.cells v.C):=by kernel_rfl
theorem d5h (v:Lt):(((@p488 v).set 31 (.cells v.C)))[31]?=some (.cells v.C):=by kernel_rfl
noncomputable def d7q (al:List Nat) (y0 y1:AV) (D:List AV) (k:Int) (es i:List Ent) (R:Nat→Rw) (ks:List (List Nat)):=callG e7 400 179 [(@b3W (vJ es i 0 k al y0 y1 [] D (ks.map b9) (g8 R ks.length) ((up1 (i6 5) ks (g8 R ks.length)).1.map b9) (up1 (i6 5) ks (g8 R ks.length)).2 ((up2 (i6 5) l9 ks (g8 R ks.length)).1.map b9) (up2 (i6 5) l9 ks (g8 R ks.length)).2)),k95,b5f] (@b5a (vJ es i 0 k al y0 y1 [] D (ks.map b9) (g8 R ks.length) ((up1 (i6 5) ks (g8 R ks.length)).1.map b9) (up1 (i6 5) ks (g8 R ks.length)).2 ((up2 (i6 5) l9 ks (g8 R ks.length)).1.map b9) (up2 (i6 5) l9 ks (g8 R ks.length)).2))
def d2q (al:List Nat) (y0 y1:AV) (D:List AV) (k:Int) (es i:List Ent) (R:Nat→Rw) (ks:List (List Nat)):Option (AV×St):=some ((@b0r (vJ es i 0 k al y0 y1 [] D (ks.map b9) (g8 R ks.length) ((up1 (i6 5) ks (g8 R ks.length)).1.map b9) (up1 (i6 5) ks (g8 R ks.length)).2 ((up2 (i6 5) l9 ks (g8 R ks.length)).1.map b9) (up2 (i6 5) l9 ks (g8 R ks.length)).2)),(@a8S (vJ es i 0 k al y0 y1 [] D (ks.map b9) (g8 R ks.length) ((up1 (i6 5) ks (g8 R ks.length)).1.map b9) (up1 (i6 5) ks (g8 R ks.length)).2 ((up2 (i6 5) l9 ks (g8 R ks.length)).1.map b9) (up2 (i6 5) l9 ks (g8 R ks.length)).2)))
theorem d9B (al:List Nat) (y0 y1:AV) (D:List AV) (k:Int) (es i:List Ent) (R:Nat→Rw):(M3 personK).map (d7q al y0 y1 D k es i R)=(M3 personK).map (d2q al y0 y1 D k es i R):=by kernel_rfl
noncomputable def d6r (al:List Nat) (y0 y1:AV) (D:List AV) (k:Int) (es i:List Ent) (R:Nat→Rw) (ks:List (List Nat)):=callG e7 400 179 (@b5T (vJ es i 0 k al y0 y1 [] D (ks.map b9) (g8 R ks.length) ((up1 (i6 5) ks (g8 R ks.length)).1.map b9) (up1 (i6 5) ks (g8 R ks.length)).2 ((up2 (i6 5) l9 ks (g8 R ks.length)).1.map b9) (up2 (i6 5) l9 ks (g8 R ks.length)).2)) (@b4f (vJ es i 0 k al y0 y1 [] D (ks.map b9) (g8 R ks.length) ((up1 (i6 5) ks (g8 R ks.length)).1.map b9) (up1 (i6 5) ks (g8 R ks.length)).2 ((up2 (i6 5) l9 ks (g8 R ks.length)).1.map b9) (up2 (i6 5) l9 ks (g8 R ks.length)).2))
def d0h (al:List Nat) (y0 y1:AV) (D:List AV) (k:Int) (es i:List Ent) (R:Nat→Rw) (ks:List (List Nat)):Option (AV×St):=some ((@a2R (vJ es i 0 k al y0 y1 [] D (ks.map b9) (g8 R ks.length) ((up1 (i6 5) ks (g8 R ks.length)).1.map b9) (up1 (i6 5) ks (g8 R ks.length)).2 ((up2 (i6 5) l9 ks (g8 R ks.length)).1.map b9) (up2 (i6 5) l9 ks (g8 R ks.length)).2)),(@a3Z (vJ es i 0 k al y0 y1 [] D (ks.map b9) (g8 R ks.length) ((up1 (i6 5) ks (g8 R ks.length)).1.map b9) (up1 (i6 5) ks (g8 R ks.length)).2 ((up2 (i6 5) l9 ks (g8 R ks.length)).1.map b9) (up2 (i6 5) l9 ks (g8 R ks.length)).2)))
theorem d8r (al:List Nat) (y0 y1:AV) (D:List AV) (k:Int) (es i:List Ent) (R:Nat→Rw):(M3 personK).map (d6r al y0 y1 D k es i R)=(M3 personK).map (d0h al y0 y1 D k es i R):=by kernel_rfl
theorem c8H (v:Lt):((@a3Z v))[31]?=some (.cells v.C):=by kernel_rfl
theorem c9i (v:Lt):((@a3Z v)).length=47:=by kernel_rfl
theorem c7Y (v:Lt):((@a2Q v))[47]?=some (.cells v.C2):=by kernel_rfl
theorem c5a (es i:List Ent) (m:Int) (al:List Nat) (y0 y1:AV) (t:List Nat) (D:List AV) (K L K1 L1 K2 L2:List (List AV)):callG e7 400 264 [k39] (@p504 (vJ es i m 1 al y0 y1 t D K L K1 L1 K2 L2))=some (k28,((@p504 (vJ es i m 1 al y0 y1 t D K L K1 L1 K2 L2)).set 48 ((@a0x (vJ es i m 1 al y0 y1 t D K L K1 L1 K2 L2))))):=by kernel_rfl
theorem c7k (es i:List Ent) (m:Int) (al:List Nat) (y0 y1:AV) (t:List Nat) (D:List AV) (K L K1 L1 K2 L2:List (List AV)):callG e7 400 264 [k39] (@p504 (vJ es i m 2 al y0 y1 t D K L K1 L1 K2 L2))=some (k28,((@p504 (vJ es i m 2 al y0 y1 t D K L K1 L1 K2 L2)).set 48 ((@a0x (vJ es i m 2 al y0 y1 t D K L K1 L1 K2 L2))))):=by kernel_rfl
theorem c7M (es i:List Ent) (m:Int) (al:List Nat) (y0 y1:AV) (t:List Nat) (D:List AV) (K L K1 L1 K2 L2:List (List AV)):callG e7 400 264 [k39] (@p504 (vJ es i m 3 al y0 y1 t D K L K1 L1 K2 L2))=some (k28,((@p504 (vJ es i m 3 al y0 y1 t D K L K1 L1 K2 L2)).set 48 ((@a0x (vJ es i m 3 al y0 y1 t D K L K1 L1 K2 L2))))):=by kernel_rfl
theorem d77 (es i:List Ent) (m k:Int) (hk:k=1∨k=2∨k=3) (al:List Nat) (y0 y1:AV) (t:List Nat) (D:List AV) (K L K1 L1 K2 L2:List (List AV)):@a8t (vJ es i m k al y0 y1 t D K L K1 L1 K2 L2):=by
 rcases hk with rfl|rfl|rfl
 · exact ev_ofG (k:=400) (c5a es i m al y0 y1 t D K L K1 L1 K2 L2)
 · exact ev_ofG (k:=400) (c7k es i m al y0 y1 t D K L K1 L1 K2 L2)
 · exact ev_ofG (k:=400) (c7M es i m al y0 y1 t D K L K1 L1 K2 L2)
noncomputable def d5n (al:List Nat) (y0 y1:AV) (D:List AV) (k:Int) (es i:List Ent) (R:Nat→Rw) (ks:List (List Nat)):=callG e7 400 105 [(@b5m (vJ es i 0 k al y0 y1 [] D (ks.map b9) (g8 R ks.length) ((up1 (i6 5) ks (g8 R ks.length)).1.map b9) (up1 (i6 5) ks (g8 R ks.length)).2 ((up2 (i6 5) l9 ks (g8 R ks.length)).1.map b9) (up2 (i6 5) l9 ks (g8 R ks.length)).2)),k95] ((@p504 (vJ es i 0 k al y0 y1 [] D (ks.map b9) (g8 R ks.length) ((up1 (i6 5) ks (g8 R ks.length)).1.map b9) (up1 (i6 5) ks (g8 R ks.length)).2 ((up2 (i6 5) l9 ks (g8 R ks.length)).1.map b9) (up2 (i6 5) l9 ks (g8 R ks.length)).2)).set 48 ((@a0x (vJ es i 0 k al y0 y1 [] D (ks.map b9) (g8 R ks.length) ((up1 (i6 5) ks (g8 R ks.length)).1.map b9) (up1 (i6 5) ks (g8 R ks.length)).2 ((up2 (i6 5) l9 ks (g8 R ks.length)).1.map b9) (up2 (i6 5) l9 ks (g8 R ks.length)).2))))
def d6w (al:List Nat) (y0 y1:AV) (D:List AV) (k:Int) (es i:List Ent) (R:Nat→Rw) (ks:List (List Nat)):Option (AV×St):=some (a8w,((@p504 (vJ es i 0 k al y0 y1 [] D (ks.map b9) (g8 R ks.length) ((up1 (i6 5) ks (g8 R ks.length)).1.map b9) (up1 (i6 5) ks (g8 R ks.length)).2 ((up2 (i6 5) l9 ks (g8 R ks.length)).1.map b9) (up2 (i6 5) l9 ks (g8 R ks.length)).2)).set 48 ((@a0x (vJ es i 0 k al y0 y1 [] D (ks.map b9) (g8 R ks.length) ((up1 (i6 5) ks (g8 R ks.length)).1.map b9) (up1 (i6 5) ks (g8 R ks.length)).2 ((up2 (i6 5) l9 ks (g8 R ks.length)).1.map b9) (up2 (i6 5) l9 ks (g8 R ks.length)).2)))))
theorem e0x (al:List Nat) (y0 y1:AV) (D:List AV) (k:Int) (es i:List Ent) (R:Nat→Rw):(M3 personK).map (d5n al y0 y1 D k es i R)=(M3 personK).map (d6w al y0 y1 D k es i R):=by kernel_rfl
theorem d0n (v:Lt):((@p527 v))[31]?=some (.cells v.C):=by kernel_rfl
theorem d7p (v:Lt):((((@p527 v).set 31 (.cells v.C)).set 32 ((@s9 v))))[31]?=some (.cells v.C):=by kernel_rfl
theorem d5k (v:Lt):((@p528 v))[31]?=some (.cells v.C):=by kernel_rfl
theorem b83 (v:Lt):(((@p528 v).set 31 (.cells v.C)))[31]?=some (.cells v.C):=by kernel_rfl
theorem b7U (v:Lt):((@a0M v))[31]?=some (.cells v.C):=by kernel_rfl
theorem c68 (es i:List Ent) (m:Int) (al:List Nat) (y0 y1:AV) (t:List Nat) (D:List AV) (K L K1 L1 K2 L2:List (List AV)):callG e7 400 264 [A9] (@p534 (vJ es i m 1 al y0 y1 t D K L K1 L1 K2 L2))=some (k28,((@p534 (vJ es i m 1 al y0 y1 t D K L K1 L1 K2 L2)).set 39 ((@l5 (vJ es i m 1 al y0 y1 t D K L K1 L1 K2 L2))))):=by kernel_rfl
theorem c7T (es i:List Ent) (m:Int) (al:List Nat) (y0 y1:AV) (t:List Nat) (D:List AV) (K L K1 L1 K2 L2:List (List AV)):callG e7 400 264 [A9] (@p534 (vJ es i m 2 al y0 y1 t D K L K1 L1 K2 L2))=some (k28,((@p534 (vJ es i m 2 al y0 y1 t D K L K1 L1 K2 L2)).set 39 ((@l5 (vJ es i m 2 al y0 y1 t D K L K1 L1 K2 L2))))):=by kernel_rfl
theorem c4k (es i:List Ent) (m:Int) (al:List Nat) (y0 y1:AV) (t:List Nat) (D:List AV) (K L K1 L1 K2 L2:List (List AV)):callG e7 400 264 [A9] (@p534 (vJ es i m 3 al y0 y1 t D K L K1 L1 K2 L2))=some (k28,((@p534 (vJ es i m 3 al y0 y1 t D K L K1 L1 K2 L2)).set 39 ((@l5 (vJ es i m 3 al y0 y1 t D K L K1 L1 K2 L2))))):=by kernel_rfl
theorem c2v (es i:List Ent) (m k:Int) (hk:k=1∨k=2∨k=3) (al:List Nat) (y0 y1:AV) (t:List Nat) (D:List AV) (K L K1 L1 K2 L2:List (List AV)):@a2u (vJ es i m k al y0 y1 t D K L K1 L1 K2 L2):=by
 rcases hk with rfl|rfl|rfl
 · exact ev_ofG (k:=400) (c68 es i m al y0 y1 t D K L K1 L1 K2 L2)
 · exact ev_ofG (k:=400) (c7T es i m al y0 y1 t D K L K1 L1 K2 L2)
 · exact ev_ofG (k:=400) (c4k es i m al y0 y1 t D K L K1 L1 K2 L2)
noncomputable def d6h (al:List Nat) (y0 y1:AV) (D:List AV) (k:Int) (es i:List Ent) (m:Int) (j:List (List AV)) (ks:List (List Nat)):=callG e7 400 105 [(@a4V (vJ es i m k al y0 y1 [] D ((m5::ks).map b9) (i6 m::j) [] [] [] [])),k95] ((@p534 (vJ es i m k al y0 y1 [] D ((m5::ks).map b9) (i6 m::j) [] [] [] [])).set 39 ((@l5 (vJ es i m k al y0 y1 [] D ((m5::ks).map b9) (i6 m::j) [] [] [] []))))
def d1l (al:List Nat) (y0 y1:AV) (D:List AV) (k:Int) (es i:List Ent) (m:Int) (j:List (List AV)) (ks:List (List Nat)):Option (AV×St):=some ((@a5h (vJ es i m k al y0 y1 [] D ((m5::ks).map b9) (i6 m::j) [] [] [] [])),((@p534 (vJ es i m k al y0 y1 [] D ((m5::ks).map b9) (i6 m::j) [] [] [] [])).set 39 ((@l5 (vJ es i m k al y0 y1 [] D ((m5::ks).map b9) (i6 m::j) [] [] [] [])))))
theorem d93 (al:List Nat) (y0 y1:AV) (D:List AV) (k:Int) (es i:List Ent) (m:Int) (j:List (List AV)):(M3 personK.tail).map (d6h al y0 y1 D k es i m j)=(M3 personK.tail).map (d1l al y0 y1 D k es i m j):=by kernel_rfl
theorem d2H (v:Lt):((((@p540 v).set 41 ((@C7 v))).set 32 ((@a5p v))))[31]?=some (.cells v.C):=by kernel_rfl
theorem c8F (v:Lt):((((@p540 v).set 41 ((@C7 v))).set 32 ((@a5p v)))).length=50:=by kernel_rfl
noncomputable def d5G (al:List Nat) (y0 y1:AV) (D:List AV) (k:Int) (es i:List Ent) (j:List (List AV)) (ks:List (List Nat)):=callG e7 400 105 [(@a4V (vJ es i 0 k al y0 y1 [] D (ks.map b9) j [] [] [] [])),k95] ((@p534 (vJ es i 0 k al y0 y1 [] D (ks.map b9) j [] [] [] [])).set 39 ((@l5 (vJ es i 0 k al y0 y1 [] D (ks.map b9) j [] [] [] []))))
def c8w (al:List Nat) (y0 y1:AV) (D:List AV) (k:Int) (es i:List Ent) (j:List (List AV)) (ks:List (List Nat)):Option (AV×St):=some (b3R,((@p534 (vJ es i 0 k al y0 y1 [] D (ks.map b9) j [] [] [] [])).set 39 ((@l5 (vJ es i 0 k al y0 y1 [] D (ks.map b9) j [] [] [] [])))))
theorem d9i (al:List Nat) (y0 y1:AV) (D:List AV) (k:Int) (es i:List Ent) (j:List (List AV)):(M3 personK.tail).map (d5G al y0 y1 D k es i j)=(M3 personK.tail).map (c8w al y0 y1 D k es i j):=by kernel_rfl
theorem d3J (v:Lt):((@a8G v))[31]?=some (.cells v.C):=by kernel_rfl
theorem d58 (v:Lt):((@a8G v)).length=48:=by kernel_rfl
theorem d5O (v:Lt):((@p574 v))[31]?=some (.cells v.C):=by kernel_rfl
theorem c9Q (v:Lt):((((@p574 v).set 31 (.cells v.C)).set 32 ((@s9 v))))[31]?=some (.cells v.C):=by kernel_rfl
theorem d3t (v:Lt):((@p575 v))[31]?=some (.cells v.C):=by kernel_rfl
theorem d7f (v:Lt):(((@p575 v).set 31 (.cells v.C)))[31]?=some (.cells v.C):=by kernel_rfl
theorem c9D (v:Lt):((@a3n v))[31]?=some (.cells v.C):=by kernel_rfl
theorem c4v (es i:List Ent) (m:Int) (al:List Nat) (y0 y1:AV) (t:List Nat) (D:List AV) (K L K1 L1 K2 L2:List (List AV)):callG e7 400 264 [A9] (@p583 (vJ es i m 1 al y0 y1 t D K L K1 L1 K2 L2))=some (k28,((@p583 (vJ es i m 1 al y0 y1 t D K L K1 L1 K2 L2)).set 39 ((@l5 (vJ es i m 1 al y0 y1 t D K L K1 L1 K2 L2))))):=by kernel_rfl
theorem c4u (es i:List Ent) (m:Int) (al:List Nat) (y0 y1:AV) (t:List Nat) (D:List AV) (K L K1 L1 K2 L2:List (List AV)):callG e7 400 264 [A9] (@p583 (vJ es i m 2 al y0 y1 t D K L K1 L1 K2 L2))=some (k28,((@p583 (vJ es i m 2 al y0 y1 t D K L K1 L1 K2 L2)).set 39 ((@l5 (vJ es i m 2 al y0 y1 t D K L K1 L1 K2 L2))))):=by kernel_rfl
theorem c7F (es i:List Ent) (m:Int) (al:List Nat) (y0 y1:AV) (t:List Nat) (D:List AV) (K L K1 L1 K2 L2:List (List AV)):callG e7 400 264 [A9] (@p583 (vJ es i m 3 al y0 y1 t D K L K1 L1 K2 L2))=some (k28,((@p583 (vJ es i m 3 al y0 y1 t D K L K1 L1 K2 L2)).set 39 ((@l5 (vJ es i m 3 al y0 y1 t D K L K1 L1 K2 L2))))):=by kernel_rfl
theorem d7X (es i:List Ent) (m k:Int) (hk:k=1∨k=2∨k=3) (al:List Nat) (y0 y1:AV) (t:List Nat) (D:List AV) (K L K1 L1 K2 L2:List (List AV)):@a9d (vJ es i m k al y0 y1 t D K L K1 L1 K2 L2):=by
 rcases hk with rfl|rfl|rfl
 · exact ev_ofG (k:=400) (c4v es i m al y0 y1 t D K L K1 L1 K2 L2)
 · exact ev_ofG (k:=400) (c4u es i m al y0 y1 t D K L K1 L1 K2 L2)
 · exact ev_ofG (k:=400) (c7F es i m al y0 y1 t D K L K1 L1 K2 L2)
theorem c9k (v:Lt):((@a8E v))[31]?=some (.cells v.C):=by kernel_rfl
theorem d2o (v:Lt):((@a8E v)).length=48:=by kernel_rfl
theorem e6d {al:List Nat} {y0 y1:AV} {D:List AV} {k:Int} (hk:k=1∨k=2∨k=3) {es:List Ent} (hs:j0 es) (hl:es.length≤13) (hg:n9 es [97]=none):Ev e7 45 (@p71 (vJ es (i8 es E5) 0 k al y0 y1 [] D [] [] [] [] [] [])) (@p72 (vJ es (i8 es E5) 0 k al y0 y1 [] D [] [] [] [] [] [])) p64 ((@p53 (vJ es (i8 es E5) 0 k al y0 y1 [] D [] [] [] [] [] [])).set 32 ((@p76 (vJ es (i8 es E5) 0 k al y0 y1 [] D [] [] [] [] [] [])))):=e1Q (v:=(vJ es (i8 es E5) 0 k al y0 y1 [] D [] [] [] [] [] [])) (show MOK 0 from⟨by decide,by decide⟩) hl (cvt (o9 (es:=es) rfl (d9h (vJ es (i8 es E5) 0 k al y0 y1 [] D [] [] [] [] [] [])) hs (by omega) hg) (by kernel_rfl)) (cvt (a4o (es:=es) (x:=E5) rfl (d8k (vJ es (i8 es E5) 0 k al y0 y1 [] D [] [] [] [] [] [])) hs (by omega) (a0k hg) (e0a (vJ es (i8 es E5) 0 k al y0 y1 [] D [] [] [] [] [] []))) (by kernel_rfl)) (cvt (o9 (es:=i8 es E5) (Q6 (a0k hg)) (e0W (vJ es (i8 es E5) 0 k al y0 y1 [] D [] [] [] [] [] [])) (L0 hs _) (by rw[Q6 (a0k hg)]; omega) (Y9 E5 es)) (by kernel_rfl)) (sQ7 _ _ _ _ hk _ _ _ _ _ _ _ _ _ _ _)
theorem e2s {al:List Nat} {y0 y1:AV} {D:List AV} {k:Int} (hk:k=1∨k=2∨k=3) {es:List Ent} (hs:j0 es) (hl:es.length≤13) {e:Ent} (hid:e.id=[97]) (hg:n9 es [97]=some e):Ev e7 112 [k33,p10,k13,p11] (((@p4 (vJ es [] 0 k al y0 y1 e.t D (e.ks.map b9) (e.ls.map Val.row) [] [] [] [])).set 31 (.cells (vJ es [] 0 k al y0 y1 e.t D (e.ks.map b9) (e.ls.map Val.row) [] [] [] []).C)).set 32 ((@p0 (vJ es [] 0 k al y0 y1 e.t D (e.ks.map b9) (e.ls.map Val.row) [] [] [] [])))) k59 (((@p4 (vJ es [] 0 k al y0 y1 e.t D (e.ks.map b9) (e.ls.map Val.row) [] [] [] [])).set 31 (.cells (vJ es [] 0 k al y0 y1 e.t D (e.ks.map b9) (e.ls.map Val.row) [] [] [] []).C)).set 32 ((@p0 (vJ es [] 0 k al y0 y1 e.t D (e.ks.map b9) (e.ls.map Val.row) [] [] [] [])))):=e29 (v:=(vJ es [] 0 k al y0 y1 e.t D (e.ks.map b9) (e.ls.map Val.row) [] [] [] [])) (show MOK 0 from⟨by decide,by decide⟩) hl (by have h:=o9 (es:=es) rfl (e0e (vJ es [] 0 k al y0 y1 e.t D (e.ks.map b9) (e.ls.map Val.row) [] [] [] [])) hs (by omega) hg;rw[Option.getD_some,show e.row=[.str e.t,.str e.id,.list false (e.ks.map b9),.list false (e.ls.map Val.row)]from rfl,hid]at h;exact cvt h (by kernel_rfl))
theorem e4t {al:List Nat} {y0 y1:AV} {D:List AV} {k:Int} (hk:k=1∨k=2∨k=3) {es:List Ent} (hs:j0 es) (hl:es.length≤13) {t:List Nat} {K L:List (List AV)} (i:@Q15 (vJ es [] 0 k al y0 y1 t D K L [] [] [] [])):Ev e7 45 (@p71 (vJ es [] 0 k al y0 y1 t D K L [] [] [] [])) (@p72 (vJ es [] 0 k al y0 y1 t D K L [] [] [] [])) p84 (@p83 (vJ es [] 0 k al y0 y1 t D K L [] [] [] [])):=e23 (v:=(vJ es [] 0 k al y0 y1 t D K L [] [] [] [])) (show MOK 0 from⟨by decide,by decide⟩) hl i
theorem e3x {al:List Nat} {y0 y1:AV} {D:List AV} {k:Int} (hk:k=1∨k=2∨k=3) {es:List Ent} (hs:j0 es) (hl:es.length≤13) (hg:n9 es [98]=none):Ev e7 45 (@a5m (vJ es (i8 es E0) 0 k al y0 y1 [] D [] [] [] [] [] [])) ((@p72 (vJ es (i8 es E0) 0 k al y0 y1 [] D [] [] [] [] [] [])).set 33 ((@p85 (vJ es (i8 es E0) 0 k al y0 y1 [] D [] [] [] [] [] [])))) a8L ((@p135 (vJ es (i8 es E0) 0 k al y0 y1 [] D [] [] [] [] [] [])).set 32 ((@b6r (vJ es (i8 es E0) 0 k al y0 y1 [] D [] [] [] [] [] [])))):=e9m (v:=(vJ es (i8 es E0) 0 k al y0 y1 [] D [] [] [] [] [] [])) (show MOK 0 from⟨by decide,by decide⟩) hl (cvt (o9 (es:=es) rfl (d9d (vJ es (i8 es E0) 0 k al y0 y1 [] D [] [] [] [] [] [])) hs (by omega) hg) (by kernel_rfl)) (cvt (a4o (es:=es) (x:=E0) rfl (e0B (vJ es (i8 es E0) 0 k al y0 y1 [] D [] [] [] [] [] [])) hs (by omega) (a0k hg) (e1y (vJ es (i8 es E0) 0 k al y0 y1 [] D [] [] [] [] [] []))) (by kernel_rfl)) (cvt (o9 (es:=i8 es E0) (Q6 (a0k hg)) (d8M (vJ es (i8 es E0) 0 k al y0 y1 [] D [] [] [] [] [] [])) (L0 hs _) (by rw[Q6 (a0k hg)]; omega) (Y9 E0 es)) (by kernel_rfl)) (e8E _ _ _ _ hk _ _ _ _ _ _ _ _ _ _ _)
theorem e8D {al:List Nat} {y0 y1:AV} {D:List AV} {k:Int} (hk:k=1∨k=2∨k=3) {es:List Ent} (hs:j0 es) (hl:es.length≤13) {e:Ent} (hid:e.id=[98]) (hg:n9 es [98]=some e):Ev e7 112 [k33,p95,k62,p96] (((@p88 (vJ es [] 0 k al y0 y1 e.t D (e.ks.map b9) (e.ls.map Val.row) [] [] [] [])).set 31 (.cells (vJ es [] 0 k al y0 y1 e.t D (e.ks.map b9) (e.ls.map Val.row) [] [] [] []).C)).set 32 ((@p0 (vJ es [] 0 k al y0 y1 e.t D (e.ks.map b9) (e.ls.map Val.row) [] [] [] [])))) k59 (((@p88 (vJ es [] 0 k al y0 y1 e.t D (e.ks.map b9) (e.ls.map Val.row) [] [] [] [])).set 31 (.cells (vJ es [] 0 k al y0 y1 e.t D (e.ks.map b9) (e.ls.map Val.row) [] [] [] []).C)).set 32 ((@p0 (vJ es [] 0 k al y0 y1 e.t D (e.ks.map b9) (e.ls.map Val.row) [] [] [] [])))):=e7P (v:=(vJ es [] 0 k al y0 y1 e.t D (e.ks.map b9) (e.ls.map Val.row) [] [] [] [])) (show MOK 0 from⟨by decide,by decide⟩) hl (by have h:=o9 (es:=es) rfl (e01 (vJ es [] 0 k al y0 y1 e.t D (e.ks.map b9) (e.ls.map Val.row) [] [] [] [])) hs (by omega) hg;rw[Option.getD_some,show e.row=[.str e.t,.str e.id,.list false (e.ks.map b9),.list false (e.ls.map Val.row)]from rfl,hid]at h;exact cvt h (by kernel_rfl))
theorem e7H {al:List Nat} {y0 y1:AV} {D:List AV} {k:Int} (hk:k=1∨k=2∨k=3) {es:List Ent} (hs:j0 es) (hl:es.length≤13) {t:List Nat} {K L:List (List AV)} (i:@Q32 (vJ es [] 0 k al y0 y1 t D K L [] [] [] [])):Ev e7 45 (@a5m (vJ es [] 0 k al y0 y1 t D K L [] [] [] [])) ((@p72 (vJ es [] 0 k al y0 y1 t D K L [] [] [] [])).set 33 ((@p85 (vJ es [] 0 k al y0 y1 t D K L [] [] [] [])))) p84 (@b3K (vJ es [] 0 k al y0 y1 t D K L [] [] [] [])):=e6w (v:=(vJ es [] 0 k al y0 y1 t D K L [] [] [] [])) (show MOK 0 from⟨by decide,by decide⟩) hl i
theorem e4l {al:List Nat} {y0 y1:AV} {D:List AV} {k:Int} (hk:k=1∨k=2∨k=3) {es:List Ent} (hs:j0 es) (hl:es.length≤13) (hg:n9 es [99]=none):Ev e7 112 [k33,T0,k94,Z1] (@p168 (vJ es [] 0 k al y0 y1 [] D [] [] [] [] [] [])) q8 (@p168 (vJ es [] 0 k al y0 y1 [] D [] [] [] [] [] [])):=e3L (v:=(vJ es [] 0 k al y0 y1 [] D [] [] [] [] [] [])) (show MOK 0 from⟨by decide,by decide⟩) hl (cvt (o9 (es:=es) rfl (d0i (vJ es [] 0 k al y0 y1 [] D [] [] [] [] [] [])) hs (by omega) hg) (by kernel_rfl))
theorem e5Z {al:List Nat} {y0 y1:AV} {D:List AV} {k:Int} (hk:k=1∨k=2∨k=3) {es:List Ent} (hs:j0 es) (hl:es.length≤13) {e:Ent} (hid:e.id=[99]) (i:e.t=Z3) (hg:n9 es [99]=some e):Ev e7 112 [k33,T0,k94,Z1] (((@p168 (vJ es [] 0 k al y0 y1 [] D (e.ks.map b9) (e.ls.map Val.row) [] [] [] [])).set 31 (.cells (vJ es [] 0 k al y0 y1 [] D (e.ks.map b9) (e.ls.map Val.row) [] [] [] []).C)).set 32 ((@p0 (vJ es [] 0 k al y0 y1 [] D (e.ks.map b9) (e.ls.map Val.row) [] [] [] [])))) q8 (((@p168 (vJ es [] 0 k al y0 y1 [] D (e.ks.map b9) (e.ls.map Val.row) [] [] [] [])).set 31 (.cells (vJ es [] 0 k al y0 y1 [] D (e.ks.map b9) (e.ls.map Val.row) [] [] [] []).C)).set 32 ((@p0 (vJ es [] 0 k al y0 y1 [] D (e.ks.map b9) (e.ls.map Val.row) [] [] [] [])))):=e3K (v:=(vJ es [] 0 k al y0 y1 [] D (e.ks.map b9) (e.ls.map Val.row) [] [] [] [])) (show MOK 0 from⟨by decide,by decide⟩) hl (by have h:=o9 (es:=es) rfl (d2M (vJ es [] 0 k al y0 y1 [] D (e.ks.map b9) (e.ls.map Val.row) [] [] [] [])) hs (by omega) hg;rw[Option.getD_some,show e.row=[.str e.t,.str e.id,.list false (e.ks.map b9),.list false (e.ls.map Val.row)]from rfl,hid,i]at h;exact cvt h (by kernel_rfl))
theorem e73 {al:List Nat} {y0 y1:AV} {D:List AV} {k:Int} (hk:k=1∨k=2∨k=3) {es:List Ent} (hs:j0 es) (hl:es.length≤13) {e:Ent} (hid:e.id=[99]) (i:e.t=a3X) (hg:n9 es [99]=some e):Ev e7 112 [k33,T0,k94,Z1] (@p178 (vJ es [] 0 k al y0 y1 [] D (e.ks.map b9) (e.ls.map Val.row) [] [] [] [])) q8 (@p178 (vJ es [] 0 k al y0 y1 [] D (e.ks.map b9) (e.ls.map Val.row) [] [] [] [])):=e33 (v:=(vJ es [] 0 k al y0 y1 [] D (e.ks.map b9) (e.ls.map Val.row) [] [] [] [])) (show MOK 0 from⟨by decide,by decide⟩) hl (by have h:=o9 (es:=es) rfl (d2K (vJ es [] 0 k al y0 y1 [] D (e.ks.map b9) (e.ls.map Val.row) [] [] [] [])) hs (by omega) hg;rw[Option.getD_some,show e.row=[.str e.t,.str e.id,.list false (e.ks.map b9),.list false (e.ls.map Val.row)]from rfl,hid,i]at h;exact cvt h (by kernel_rfl))
theorem e1K {al:List Nat} {y0 y1:AV} {D:List AV} {k:Int} (hk:k=1∨k=2∨k=3) {es:List Ent} (hs:j0 es) (hl:es.length≤13) {ks:List (List Nat)} {ls:List Val} {R:Nat→Rw} (i:ls.map Val.row=g8 R ks.length) (j:ks.Sublist personK) (hg:n9 es [99]=some ⟨s7,[99],ks,ls⟩):Ev e7 45 (@a5H (vJ es (i8 es (r8 ks ls)) 0 k al y0 y1 [] D (ks.map b9) (g8 R ks.length) ((up1 (i6 5) ks (g8 R ks.length)).1.map b9) (up1 (i6 5) ks (g8 R ks.length)).2 ((up2 (i6 5) l9 ks (g8 R ks.length)).1.map b9) (up2 (i6 5) l9 ks (g8 R ks.length)).2)) (@p262 (vJ es (i8 es (r8 ks ls)) 0 k al y0 y1 [] D (ks.map b9) (g8 R ks.length) ((up1 (i6 5) ks (g8 R ks.length)).1.map b9) (up1 (i6 5) ks (g8 R ks.length)).2 ((up2 (i6 5) l9 ks (g8 R ks.length)).1.map b9) (up2 (i6 5) l9 ks (g8 R ks.length)).2)) a8R (((@p235 (vJ es (i8 es (r8 ks ls)) 0 k al y0 y1 [] D (ks.map b9) (g8 R ks.length) ((up1 (i6 5) ks (g8 R ks.length)).1.map b9) (up1 (i6 5) ks (g8 R ks.length)).2 ((up2 (i6 5) l9 ks (g8 R ks.length)).1.map b9) (up2 (i6 5) l9 ks (g8 R ks.length)).2)).set 49 (E1)).set 32 ((@b4U (vJ es (i8 es (r8 ks ls)) 0 k al y0 y1 [] D (ks.map b9) (g8 R ks.length) ((up1 (i6 5) ks (g8 R ks.length)).1.map b9) (up1 (i6 5) ks (g8 R ks.length)).2 ((up2 (i6 5) l9 ks (g8 R ks.length)).1.map b9) (up2 (i6 5) l9 ks (g8 R ks.length)).2)))):=e36 (v:=(vJ es (i8 es (r8 ks ls)) 0 k al y0 y1 [] D (ks.map b9) (g8 R ks.length) ((up1 (i6 5) ks (g8 R ks.length)).1.map b9) (up1 (i6 5) ks (g8 R ks.length)).2 ((up2 (i6 5) l9 ks (g8 R ks.length)).1.map b9) (up2 (i6 5) l9 ks (g8 R ks.length)).2)) (show MOK 0 from⟨by decide,by decide⟩) hl (by
 have h:=o9 (es:=es) rfl (d45 (vJ es (i8 es (r8 ks ls)) 0 k al y0 y1 [] D (ks.map b9) (g8 R ks.length) ((up1 (i6 5) ks (g8 R ks.length)).1.map b9) (up1 (i6 5) ks (g8 R ks.length)).2 ((up2 (i6 5) l9 ks (g8 R ks.length)).1.map b9) (up2 (i6 5) l9 ks (g8 R ks.length)).2)) hs (by omega) hg;simp only[Option.getD_some,Ent.row,i]at h;exact cvt h (by kernel_rfl)) (ev_ofG (k:=400) (List.map_inj_left.1 (e5t al y0 y1 D k es _ R) ks (J5 j))) (ev_ofG (k:=400) (List.map_inj_left.1 (e9j al y0 y1 D k es _ R) ks (J5 j))) (by
 have h:=b0b (es:=es) (x:=r8 ks ls) rfl (d1e (vJ es (i8 es (r8 ks ls)) 0 k al y0 y1 [] D (ks.map b9) (g8 R ks.length) ((up1 (i6 5) ks (g8 R ks.length)).1.map b9) (up1 (i6 5) ks (g8 R ks.length)).2 ((up2 (i6 5) l9 ks (g8 R ks.length)).1.map b9) (up2 (i6 5) l9 ks (g8 R ks.length)).2)) hs (by omega) (S6 (id:=[99]) hg) (d6j (vJ es (i8 es (r8 ks ls)) 0 k al y0 y1 [] D (ks.map b9) (g8 R ks.length) ((up1 (i6 5) ks (g8 R ks.length)).1.map b9) (up1 (i6 5) ks (g8 R ks.length)).2 ((up2 (i6 5) l9 ks (g8 R ks.length)).1.map b9) (up2 (i6 5) l9 ks (g8 R ks.length)).2));have e:=a5R i;rw[show(r8 ks ls).row=[.str s7,.str [99],.list false ((r8 ks ls).ks.map b9),.list false ((r8 ks ls).ls.map Val.row)]from rfl,show(r8 ks ls).ks=(up2 (i6 5) l9 ks (g8 R ks.length)).1 by rw[e],show(r8 ks ls).ls.map Val.row=(up2 (i6 5) l9 ks (g8 R ks.length)).2 by rw[e]]at h;exact cvt h (by kernel_rfl)) (by
 have h:=o9 (es:=i8 es (r8 ks ls)) (a1m (S6 (id:=[99]) hg)) (d1T (vJ es (i8 es (r8 ks ls)) 0 k al y0 y1 [] D (ks.map b9) (g8 R ks.length) ((up1 (i6 5) ks (g8 R ks.length)).1.map b9) (up1 (i6 5) ks (g8 R ks.length)).2 ((up2 (i6 5) l9 ks (g8 R ks.length)).1.map b9) (up2 (i6 5) l9 ks (g8 R ks.length)).2)) (L0 hs _) (by rw[a1m (x:=r8 ks ls) (S6 (id:=[99]) hg)]; omega) (Y9 (r8 ks ls) es);have e:=a5R i;rw[Option.getD_some,show(r8 ks ls).row=[.str s7,.str [99],.list false ((r8 ks ls).ks.map b9),.list false ((r8 ks ls).ls.map Val.row)]from rfl,show(r8 ks ls).ks=(up2 (i6 5) l9 ks (g8 R ks.length)).1 by rw[e],show(r8 ks ls).ls.map Val.row=(up2 (i6 5) l9 ks (g8 R ks.length)).2 by rw[e]]at h;exact cvt h (by kernel_rfl)) (e5b _ _ _ _ hk _ _ _ _ _ _ _ _ _ _ _) (ev_ofG (k:=400) (List.map_inj_left.1 (e2Z al y0 y1 D k es _ R) ks (J5 j)))
theorem e1M {al:List Nat} {y0 y1:AV} {D:List AV} {k:Int} (hk:k=1∨k=2∨k=3) {es:List Ent} (hs:j0 es) (hl:es.length≤13) {t:List Nat} {K L:List (List AV)} (i:@Q57 (vJ es [] 0 k al y0 y1 t D K L [] [] [] [])):Ev e7 45 (@a5H (vJ es [] 0 k al y0 y1 t D K L [] [] [] [])) (((@p72 (vJ es [] 0 k al y0 y1 t D K L [] [] [] [])).set 33 ((@p85 (vJ es [] 0 k al y0 y1 t D K L [] [] [] [])))).set 33 ((@a1w (vJ es [] 0 k al y0 y1 t D K L [] [] [] [])))) p84 (@b4i (vJ es [] 0 k al y0 y1 t D K L [] [] [] [])):=e2O (v:=(vJ es [] 0 k al y0 y1 t D K L [] [] [] [])) (show MOK 0 from⟨by decide,by decide⟩) hl i
theorem e4h {al:List Nat} {y0 y1:AV} {D:List AV} {k:Int} (hk:k=1∨k=2∨k=3) {es:List Ent} (hs:j0 es) (hl:es.length≤13) (hg:n9 es [97]=none):Ev e7 112 [k33,L3,k13,X9] (@p273 (vJ es [] 0 k al y0 y1 [] D [] [] [] [] [] [])) q8 (@p273 (vJ es [] 0 k al y0 y1 [] D [] [] [] [] [] [])):=e8i (v:=(vJ es [] 0 k al y0 y1 [] D [] [] [] [] [] [])) (show MOK 0 from⟨by decide,by decide⟩) hl (cvt (o9 (es:=es) rfl (c9C (vJ es [] 0 k al y0 y1 [] D [] [] [] [] [] [])) hs (by omega) hg) (by kernel_rfl))
theorem e3t {al:List Nat} {y0 y1:AV} {D:List AV} {k:Int} (hk:k=1∨k=2∨k=3) {es:List Ent} (hs:j0 es) (hl:es.length≤13) {e:Ent} (hid:e.id=[97]) (i:e.t=Z3) (hg:n9 es [97]=some e):Ev e7 112 [k33,L3,k13,X9] (((@p273 (vJ es [] 0 k al y0 y1 [] D (e.ks.map b9) (e.ls.map Val.row) [] [] [] [])).set 31 (.cells (vJ es [] 0 k al y0 y1 [] D (e.ks.map b9) (e.ls.map Val.row) [] [] [] []).C)).set 32 ((@p0 (vJ es [] 0 k al y0 y1 [] D (e.ks.map b9) (e.ls.map Val.row) [] [] [] [])))) q8 (((@p273 (vJ es [] 0 k al y0 y1 [] D (e.ks.map b9) (e.ls.map Val.row) [] [] [] [])).set 31 (.cells (vJ es [] 0 k al y0 y1 [] D (e.ks.map b9) (e.ls.map Val.row) [] [] [] []).C)).set 32 ((@p0 (vJ es [] 0 k al y0 y1 [] D (e.ks.map b9) (e.ls.map Val.row) [] [] [] [])))):=e4u (v:=(vJ es [] 0 k al y0 y1 [] D (e.ks.map b9) (e.ls.map Val.row) [] [] [] [])) (show MOK 0 from⟨by decide,by decide⟩) hl (by have h:=o9 (es:=es) rfl (d0t (vJ es [] 0 k al y0 y1 [] D (e.ks.map b9) (e.ls.map Val.row) [] [] [] [])) hs (by omega) hg;rw[Option.getD_some,show e.row=[.str e.t,.str e.id,.list false (e.ks.map b9),.list false (e.ls.map Val.row)]from rfl,hid,i]at h;exact cvt h (by kernel_rfl))
theorem e2i {al:List Nat} {y0 y1:AV} {D:List AV} {k:Int} (hk:k=1∨k=2∨k=3) {es:List Ent} (hs:j0 es) (hl:es.length≤13) {e:Ent} (hid:e.id=[97]) (i:e.t=a3X) (hg:n9 es [97]=some e):Ev e7 112 [k33,L3,k13,X9] (@p283 (vJ es [] 0 k al y0 y1 [] D (e.ks.map b9) (e.ls.map Val.row) [] [] [] [])) q8 (@p283 (vJ es [] 0 k al y0 y1 [] D (e.ks.map b9) (e.ls.map Val.row) [] [] [] [])):=e53 (v:=(vJ es [] 0 k al y0 y1 [] D (e.ks.map b9) (e.ls.map Val.row) [] [] [] [])) (show MOK 0 from⟨by decide,by decide⟩) hl (by have h:=o9 (es:=es) rfl (d4B (vJ es [] 0 k al y0 y1 [] D (e.ks.map b9) (e.ls.map Val.row) [] [] [] [])) hs (by omega) hg;rw[Option.getD_some,show e.row=[.str e.t,.str e.id,.list false (e.ks.map b9),.list false (e.ls.map Val.row)]from rfl,hid,i]at h;exact cvt h (by kernel_rfl))
theorem e7Y {al:List Nat} {y0 y1:AV} {D:List AV} {k:Int} (hk:k=1∨k=2∨k=3) {es:List Ent} (hs:j0 es) (hl:es.length≤13) {m:Int} (hm:MOK m) {ks:List (List Nat)} {ls:List Val} (i:ks.Sublist personK.tail) (hg:n9 es [97]=some ⟨s7,[97],m5::ks,vI m::ls⟩):Ev e7 45 (@a1B (vJ es (l8 es [97]) m k al y0 y1 [] D ((m5::ks).map b9) (i6 m::ls.map Val.row) [] [] [] [])) (((@p262 (vJ es (l8 es [97]) m k al y0 y1 [] D ((m5::ks).map b9) (i6 m::ls.map Val.row) [] [] [] [])).set 31 (.cells (vJ es (l8 es [97]) m k al y0 y1 [] D ((m5::ks).map b9) (i6 m::ls.map Val.row) [] [] [] []).C)).set 33 ((@a3i (vJ es (l8 es [97]) m k al y0 y1 [] D ((m5::ks).map b9) (i6 m::ls.map Val.row) [] [] [] [])))) (@a8m (vJ es (l8 es [97]) m k al y0 y1 [] D ((m5::ks).map b9) (i6 m::ls.map Val.row) [] [] [] [])) ((@p335 (vJ es (l8 es [97]) m k al y0 y1 [] D ((m5::ks).map b9) (i6 m::ls.map Val.row) [] [] [] [])).set 32 ((@a9W (vJ es (l8 es [97]) m k al y0 y1 [] D ((m5::ks).map b9) (i6 m::ls.map Val.row) [] [] [] [])))):=e7s (v:=(vJ es (l8 es [97]) m k al y0 y1 [] D ((m5::ks).map b9) (i6 m::ls.map Val.row) [] [] [] [])) hm hl (by
 have h:=o9 (es:=es) rfl (b6P (vJ es (l8 es [97]) m k al y0 y1 [] D ((m5::ks).map b9) (i6 m::ls.map Val.row) [] [] [] [])) hs (by omega) hg;simp only[Option.getD_some,Ent.row,List.map_cons,a5e]at h;exact cvt h (by kernel_rfl)) (by
 have h:=o9 (es:=es) rfl (b7u (vJ es (l8 es [97]) m k al y0 y1 [] D ((m5::ks).map b9) (i6 m::ls.map Val.row) [] [] [] [])) hs (by omega) hg;simp only[Option.getD_some,Ent.row,List.map_cons,a5e]at h;exact cvt h (by kernel_rfl)) (d2P _ _ _ _ hk _ _ _ _ _ _ _ _ _ _ _) (ev_ofG (k:=400) (List.map_inj_left.1 (e8m al y0 y1 D k es _ m _) ks (J5 i))) (cvt (a0j (es:=es) rfl (c9d (vJ es (l8 es [97]) m k al y0 y1 [] D ((m5::ks).map b9) (i6 m::ls.map Val.row) [] [] [] [])) hs (by omega) (S6 (id:=[97]) hg) (d7g (vJ es (l8 es [97]) m k al y0 y1 [] D ((m5::ks).map b9) (i6 m::ls.map Val.row) [] [] [] []))) (by kernel_rfl))
theorem e8g {al:List Nat} {y0 y1:AV} {D:List AV} {k:Int} (hk:k=1∨k=2∨k=3) {es:List Ent} (hs:j0 es) (hl:es.length≤13) {ks:List (List Nat)} {ls:List Val} (i:ks.Sublist personK.tail) (hg:n9 es [97]=some ⟨s7,[97],ks,ls⟩):Ev e7 45 (@a1B (vJ es (l8 es [97]) 0 k al y0 y1 [] D (ks.map b9) (ls.map Val.row) [] [] [] [])) (((@p262 (vJ es (l8 es [97]) 0 k al y0 y1 [] D (ks.map b9) (ls.map Val.row) [] [] [] [])).set 31 (.cells (vJ es (l8 es [97]) 0 k al y0 y1 [] D (ks.map b9) (ls.map Val.row) [] [] [] []).C)).set 33 ((@a3i (vJ es (l8 es [97]) 0 k al y0 y1 [] D (ks.map b9) (ls.map Val.row) [] [] [] [])))) a8Y ((@p354 (vJ es (l8 es [97]) 0 k al y0 y1 [] D (ks.map b9) (ls.map Val.row) [] [] [] [])).set 32 ((@a2W (vJ es (l8 es [97]) 0 k al y0 y1 [] D (ks.map b9) (ls.map Val.row) [] [] [] [])))):=e66 (v:=(vJ es (l8 es [97]) 0 k al y0 y1 [] D (ks.map b9) (ls.map Val.row) [] [] [] [])) (show MOK 0 from⟨by decide,by decide⟩) hl (cvt (o9 (es:=es) rfl (b6P (vJ es (l8 es [97]) 0 k al y0 y1 [] D (ks.map b9) (ls.map Val.row) [] [] [] [])) hs (by omega) hg) (by kernel_rfl)) (cvt (o9 (es:=es) rfl (b7u (vJ es (l8 es [97]) 0 k al y0 y1 [] D (ks.map b9) (ls.map Val.row) [] [] [] [])) hs (by omega) hg) (by kernel_rfl)) (d2P _ _ _ _ hk _ _ _ _ _ _ _ _ _ _ _) (ev_ofG (k:=400) (List.map_inj_left.1 (e6f al y0 y1 D k es _ _) ks (J5 i))) (cvt (a0j (es:=es) rfl (d0m (vJ es (l8 es [97]) 0 k al y0 y1 [] D (ks.map b9) (ls.map Val.row) [] [] [] [])) hs (by omega) (S6 (id:=[97]) hg) (d0u (vJ es (l8 es [97]) 0 k al y0 y1 [] D (ks.map b9) (ls.map Val.row) [] [] [] []))) (by kernel_rfl))
theorem e4O {al:List Nat} {y0 y1:AV} {D:List AV} {k:Int} (hk:k=1∨k=2∨k=3) {es:List Ent} (hs:j0 es) (hl:es.length≤13) {t:List Nat} {K L:List (List AV)} (i:@Q92 (vJ es [] 0 k al y0 y1 t D K L [] [] [] [])):Ev e7 45 (@a1B (vJ es [] 0 k al y0 y1 t D K L [] [] [] [])) (@p357 (vJ es [] 0 k al y0 y1 t D K L [] [] [] [])) p84 (@b4Q (vJ es [] 0 k al y0 y1 t D K L [] [] [] [])):=e76 (v:=(vJ es [] 0 k al y0 y1 t D K L [] [] [] [])) (show MOK 0 from⟨by decide,by decide⟩) hl i
theorem e8z {al:List Nat} {y0 y1:AV} {D:List AV} {k:Int} (hk:k=1∨k=2∨k=3) {es:List Ent} (hs:j0 es) (hl:es.length≤13) (hg:n9 es [98]=none):Ev e7 112 [k33,U3,k62,Y5] (@p362 (vJ es [] 0 k al y0 y1 [] D [] [] [] [] [] [])) q8 (@p362 (vJ es [] 0 k al y0 y1 [] D [] [] [] [] [] [])):=e4V (v:=(vJ es [] 0 k al y0 y1 [] D [] [] [] [] [] [])) (show MOK 0 from⟨by decide,by decide⟩) hl (cvt (o9 (es:=es) rfl (d2p (vJ es [] 0 k al y0 y1 [] D [] [] [] [] [] [])) hs (by omega) hg) (by kernel_rfl))
theorem e5v {al:List Nat} {y0 y1:AV} {D:List AV} {k:Int} (hk:k=1∨k=2∨k=3) {es:List Ent} (hs:j0 es) (hl:es.length≤13) {e:Ent} (hid:e.id=[98]) (i:e.t=s7) (hg:n9 es [98]=some e):Ev e7 112 [k33,U3,k62,Y5] (((@p362 (vJ es [] 0 k al y0 y1 [] D (e.ks.map b9) (e.ls.map Val.row) [] [] [] [])).set 31 (.cells (vJ es [] 0 k al y0 y1 [] D (e.ks.map b9) (e.ls.map Val.row) [] [] [] []).C)).set 32 ((@p0 (vJ es [] 0 k al y0 y1 [] D (e.ks.map b9) (e.ls.map Val.row) [] [] [] [])))) q8 (((@p362 (vJ es [] 0 k al y0 y1 [] D (e.ks.map b9) (e.ls.map Val.row) [] [] [] [])).set 31 (.cells (vJ es [] 0 k al y0 y1 [] D (e.ks.map b9) (e.ls.map Val.row) [] [] [] []).C)).set 32 ((@p0 (vJ es [] 0 k al y0 y1 [] D (e.ks.map b9) (e.ls.map Val.row) [] [] [] [])))):=e88 (v:=(vJ es [] 0 k al y0 y1 [] D (e.ks.map b9) (e.ls.map Val.row) [] [] [] [])) (show MOK 0 from⟨by decide,by decide⟩) hl (by have h:=o9 (es:=es) rfl (d5r (vJ es [] 0 k al y0 y1 [] D (e.ks.map b9) (e.ls.map Val.row) [] [] [] [])) hs (by omega) hg;rw[Option.getD_some,show e.row=[.str e.t,.str e.id,.list false (e.ks.map b9),.list false (e.ls.map Val.row)]from rfl,hid,i]at h;exact cvt h (by kernel_rfl))
theorem e50 {al:List Nat} {y0 y1:AV} {D:List AV} {k:Int} (hk:k=1∨k=2∨k=3) {es:List Ent} (hs:j0 es) (hl:es.length≤13) {e:Ent} (hid:e.id=[98]) (i:e.t=a3X) (hg:n9 es [98]=some e):Ev e7 112 [k33,U3,k62,Y5] (@p372 (vJ es [] 0 k al y0 y1 [] D (e.ks.map b9) (e.ls.map Val.row) [] [] [] [])) q8 (@p372 (vJ es [] 0 k al y0 y1 [] D (e.ks.map b9) (e.ls.map Val.row) [] [] [] [])):=e80 (v:=(vJ es [] 0 k al y0 y1 [] D (e.ks.map b9) (e.ls.map Val.row) [] [] [] [])) (show MOK 0 from⟨by decide,by decide⟩) hl (by have h:=o9 (es:=es) rfl (d6x (vJ es [] 0 k al y0 y1 [] D (e.ks.map b9) (e.ls.map Val.row) [] [] [] [])) hs (by omega) hg;rw[Option.getD_some,show e.row=[.str e.t,.str e.id,.list false (e.ks.map b9),.list false (e.ls.map Val.row)]from rfl,hid,i]at h;exact cvt h (by kernel_rfl))
theorem e55 {al:List Nat} {y0 y1:AV} {D:List AV} {k:Int} (hk:k=1∨k=2∨k=3) {es:List Ent} (hs:j0 es) (hl:es.length≤13) {ks:List (List Nat)} {ls:List Val} (hg:n9 es [98]=some ⟨Z3,[98],ks,ls⟩):Ev e7 45 (@a4Y (vJ es (l8 es [98]) 0 k al y0 y1 [] D (ks.map b9) (ls.map Val.row) [] [] [] [])) (@p422 (vJ es (l8 es [98]) 0 k al y0 y1 [] D (ks.map b9) (ls.map Val.row) [] [] [] [])) a8p ((@p420 (vJ es (l8 es [98]) 0 k al y0 y1 [] D (ks.map b9) (ls.map Val.row) [] [] [] [])).set 32 ((@a2W (vJ es (l8 es [98]) 0 k al y0 y1 [] D (ks.map b9) (ls.map Val.row) [] [] [] [])))):=e9u (v:=(vJ es (l8 es [98]) 0 k al y0 y1 [] D (ks.map b9) (ls.map Val.row) [] [] [] [])) (show MOK 0 from⟨by decide,by decide⟩) hl (cvt (o9 (es:=es) rfl (d5v (vJ es (l8 es [98]) 0 k al y0 y1 [] D (ks.map b9) (ls.map Val.row) [] [] [] [])) hs (by omega) hg) (by kernel_rfl)) (cvt (o9 (es:=es) rfl (d4k (vJ es (l8 es [98]) 0 k al y0 y1 [] D (ks.map b9) (ls.map Val.row) [] [] [] [])) hs (by omega) hg) (by kernel_rfl)) (d8e _ _ _ _ hk _ _ _ _ _ _ _ _ _ _ _) (cvt (a0j (es:=es) rfl (d49 (vJ es (l8 es [98]) 0 k al y0 y1 [] D (ks.map b9) (ls.map Val.row) [] [] [] [])) hs (by omega) (S6 (id:=[98]) hg) (d6D (vJ es (l8 es [98]) 0 k al y0 y1 [] D (ks.map b9) (ls.map Val.row) [] [] [] []))) (by kernel_rfl))
theorem e39 {al:List Nat} {y0 y1:AV} {D:List AV} {k:Int} (hk:k=1∨k=2∨k=3) {es:List Ent} (hs:j0 es) (hl:es.length≤13) {t:List Nat} {K L:List (List AV)} (i:@b89 (vJ es [] 0 k al y0 y1 t D K L [] [] [] [])):Ev e7 45 (@a4Y (vJ es [] 0 k al y0 y1 t D K L [] [] [] [])) ((@p357 (vJ es [] 0 k al y0 y1 t D K L [] [] [] [])).set 33 ((@a4Z (vJ es [] 0 k al y0 y1 t D K L [] [] [] [])))) p84 (@b6j (vJ es [] 0 k al y0 y1 t D K L [] [] [] [])):=e4P (v:=(vJ es [] 0 k al y0 y1 t D K L [] [] [] [])) (show MOK 0 from⟨by decide,by decide⟩) hl i
theorem e5X {al:List Nat} {y0 y1:AV} {D:List AV} {k:Int} (hk:k=1∨k=2∨k=3) {es:List Ent} (hs:j0 es) (hl:es.length≤13) (hg:n9 es [97]=none):Ev e7 45 (@p71 (vJ es (i8 es E5) 0 k al y0 y1 [] D [] [] [] [] [] [])) (@p454 (vJ es (i8 es E5) 0 k al y0 y1 [] D [] [] [] [] [] [])) p64 ((@p446 (vJ es (i8 es E5) 0 k al y0 y1 [] D [] [] [] [] [] [])).set 32 ((@b5W (vJ es (i8 es E5) 0 k al y0 y1 [] D [] [] [] [] [] [])))):=e2F (v:=(vJ es (i8 es E5) 0 k al y0 y1 [] D [] [] [] [] [] [])) (show MOK 0 from⟨by decide,by decide⟩) hl (cvt (o9 (es:=es) rfl (d6M (vJ es (i8 es E5) 0 k al y0 y1 [] D [] [] [] [] [] [])) hs (by omega) hg) (by kernel_rfl)) (cvt (a4o (es:=es) (x:=E5) rfl (d57 (vJ es (i8 es E5) 0 k al y0 y1 [] D [] [] [] [] [] [])) hs (by omega) (a0k hg) (d4c (vJ es (i8 es E5) 0 k al y0 y1 [] D [] [] [] [] [] []))) (by kernel_rfl)) (cvt (o9 (es:=i8 es E5) (Q6 (a0k hg)) (c7V (vJ es (i8 es E5) 0 k al y0 y1 [] D [] [] [] [] [] [])) (L0 hs _) (by rw[Q6 (a0k hg)]; omega) (Y9 E5 es)) (by kernel_rfl)) (d8f _ _ _ _ hk _ _ _ _ _ _ _ _ _ _ _)
theorem e56 {al:List Nat} {y0 y1:AV} {D:List AV} {k:Int} (hk:k=1∨k=2∨k=3) {es:List Ent} (hs:j0 es) (hl:es.length≤13) {e:Ent} (hid:e.id=[97]) (hg:n9 es [97]=some e):Ev e7 112 [k33,p10,k13,p11] (((@p429 (vJ es [] 0 k al y0 y1 e.t D (e.ks.map b9) (e.ls.map Val.row) [] [] [] [])).set 31 (.cells (vJ es [] 0 k al y0 y1 e.t D (e.ks.map b9) (e.ls.map Val.row) [] [] [] []).C)).set 32 ((@s9 (vJ es [] 0 k al y0 y1 e.t D (e.ks.map b9) (e.ls.map Val.row) [] [] [] [])))) k59 (((@p429 (vJ es [] 0 k al y0 y1 e.t D (e.ks.map b9) (e.ls.map Val.row) [] [] [] [])).set 31 (.cells (vJ es [] 0 k al y0 y1 e.t D (e.ks.map b9) (e.ls.map Val.row) [] [] [] []).C)).set 32 ((@s9 (vJ es [] 0 k al y0 y1 e.t D (e.ks.map b9) (e.ls.map Val.row) [] [] [] [])))):=e6P (v:=(vJ es [] 0 k al y0 y1 e.t D (e.ks.map b9) (e.ls.map Val.row) [] [] [] [])) (show MOK 0 from⟨by decide,by decide⟩) hl (by have h:=o9 (es:=es) rfl (d0q (vJ es [] 0 k al y0 y1 e.t D (e.ks.map b9) (e.ls.map Val.row) [] [] [] [])) hs (by omega) hg;rw[Option.getD_some,show e.row=[.str e.t,.str e.id,.list false (e.ks.map b9),.list false (e.ls.map Val.row)]from rfl,hid]at h;exact cvt h (by kernel_rfl))
theorem e4k {al:List Nat} {y0 y1:AV} {D:List AV} {k:Int} (hk:k=1∨k=2∨k=3) {es:List Ent} (hs:j0 es) (hl:es.length≤13) {t:List Nat} {K L:List (List AV)} (i:@b9B (vJ es [] 0 k al y0 y1 t D K L [] [] [] [])):Ev e7 45 (@p71 (vJ es [] 0 k al y0 y1 t D K L [] [] [] [])) (@p454 (vJ es [] 0 k al y0 y1 t D K L [] [] [] [])) p84 (@b54 (vJ es [] 0 k al y0 y1 t D K L [] [] [] [])):=e6V (v:=(vJ es [] 0 k al y0 y1 t D K L [] [] [] [])) (show MOK 0 from⟨by decide,by decide⟩) hl i
theorem e5I {al:List Nat} {y0 y1:AV} {D:List AV} {k:Int} (hk:k=1∨k=2∨k=3) {es:List Ent} (hs:j0 es) (hl:es.length≤13) (hg:n9 es [98]=none):Ev e7 45 (@a5m (vJ es (i8 es E0) 0 k al y0 y1 [] D [] [] [] [] [] [])) ((@p454 (vJ es (i8 es E0) 0 k al y0 y1 [] D [] [] [] [] [] [])).set 33 ((@p85 (vJ es (i8 es E0) 0 k al y0 y1 [] D [] [] [] [] [] [])))) a8L ((@p475 (vJ es (i8 es E0) 0 k al y0 y1 [] D [] [] [] [] [] [])).set 32 ((@b35 (vJ es (i8 es E0) 0 k al y0 y1 [] D [] [] [] [] [] [])))):=e5z (v:=(vJ es (i8 es E0) 0 k al y0 y1 [] D [] [] [] [] [] [])) (show MOK 0 from⟨by decide,by decide⟩) hl (cvt (o9 (es:=es) rfl (c9z (vJ es (i8 es E0) 0 k al y0 y1 [] D [] [] [] [] [] [])) hs (by omega) hg) (by kernel_rfl)) (cvt (a4o (es:=es) (x:=E0) rfl (d5M (vJ es (i8 es E0) 0 k al y0 y1 [] D [] [] [] [] [] [])) hs (by omega) (a0k hg) (d1W (vJ es (i8 es E0) 0 k al y0 y1 [] D [] [] [] [] [] []))) (by kernel_rfl)) (cvt (o9 (es:=i8 es E0) (Q6 (a0k hg)) (d5D (vJ es (i8 es E0) 0 k al y0 y1 [] D [] [] [] [] [] [])) (L0 hs _) (by rw[Q6 (a0k hg)]; omega) (Y9 E0 es)) (by kernel_rfl)) (e05 _ _ _ _ hk _ _ _ _ _ _ _ _ _ _ _)
theorem e6H {al:List Nat} {y0 y1:AV} {D:List AV} {k:Int} (hk:k=1∨k=2∨k=3) {es:List Ent} (hs:j0 es) (hl:es.length≤13) {e:Ent} (hid:e.id=[98]) (hg:n9 es [98]=some e):Ev e7 112 [k33,p95,k62,p96] (((@p458 (vJ es [] 0 k al y0 y1 e.t D (e.ks.map b9) (e.ls.map Val.row) [] [] [] [])).set 31 (.cells (vJ es [] 0 k al y0 y1 e.t D (e.ks.map b9) (e.ls.map Val.row) [] [] [] []).C)).set 32 ((@s9 (vJ es [] 0 k al y0 y1 e.t D (e.ks.map b9) (e.ls.map Val.row) [] [] [] [])))) k59 (((@p458 (vJ es [] 0 k al y0 y1 e.t D (e.ks.map b9) (e.ls.map Val.row) [] [] [] [])).set 31 (.cells (vJ es [] 0 k al y0 y1 e.t D (e.ks.map b9) (e.ls.map Val.row) [] [] [] []).C)).set 32 ((@s9 (vJ es [] 0 k al y0 y1 e.t D (e.ks.map b9) (e.ls.map Val.row) [] [] [] [])))):=e4T (v:=(vJ es [] 0 k al y0 y1 e.t D (e.ks.map b9) (e.ls.map Val.row) [] [] [] [])) (show MOK 0 from⟨by decide,by decide⟩) hl (by have h:=o9 (es:=es) rfl (d1C (vJ es [] 0 k al y0 y1 e.t D (e.ks.map b9) (e.ls.map Val.row) [] [] [] [])) hs (by omega) hg;rw[Option.getD_some,show e.row=[.str e.t,.str e.id,.list false (e.ks.map b9),.list false (e.ls.map Val.row)]from rfl,hid]at h;exact cvt h (by kernel_rfl))
theorem e8U {al:List Nat} {y0 y1:AV} {D:List AV} {k:Int} (hk:k=1∨k=2∨k=3) {es:List Ent} (hs:j0 es) (hl:es.length≤13) {t:List Nat} {K L:List (List AV)} (i:@b9N (vJ es [] 0 k al y0 y1 t D K L [] [] [] [])):Ev e7 45 (@a5m (vJ es [] 0 k al y0 y1 t D K L [] [] [] [])) ((@p454 (vJ es [] 0 k al y0 y1 t D K L [] [] [] [])).set 33 ((@p85 (vJ es [] 0 k al y0 y1 t D K L [] [] [] [])))) p84 (@b6s (vJ es [] 0 k al y0 y1 t D K L [] [] [] [])):=e5f (v:=(vJ es [] 0 k al y0 y1 t D K L [] [] [] [])) (show MOK 0 from⟨by decide,by decide⟩) hl i
theorem e78 {al:List Nat} {y0 y1:AV} {D:List AV} {k:Int} (hk:k=1∨k=2∨k=3) {es:List Ent} (hs:j0 es) (hl:es.length≤13) (hg:n9 es [99]=none):Ev e7 112 [k33,T0,k94,Z1] (@p487 (vJ es [] 0 k al y0 y1 [] D [] [] [] [] [] [])) q8 (@p487 (vJ es [] 0 k al y0 y1 [] D [] [] [] [] [] [])):=e6L (v:=(vJ es [] 0 k al y0 y1 [] D [] [] [] [] [] [])) (show MOK 0 from⟨by decide,by decide⟩) hl (cvt (o9 (es:=es) rfl (d6X (vJ es [] 0 k al y0 y1 [] D [] [] [] [] [] [])) hs (by omega) hg) (by kernel_rfl))
theorem e5k {al:List Nat} {y0 y1:AV} {D:List AV} {k:Int} (hk:k=1∨k=2∨k=3) {es:List Ent} (hs:j0 es) (hl:es.length≤13) {e:Ent} (hid:e.id=[99]) (i:e.t=Z3) (hg:n9 es [99]=some e):Ev e7 112 [k33,T0,k94,Z1] (((@p487 (vJ es [] 0 k al y0 y1 [] D (e.ks.map b9) (e.ls.map Val.row) [] [] [] [])).set 31 (.cells (vJ es [] 0 k al y0 y1 [] D (e.ks.map b9) (e.ls.map Val.row) [] [] [] []).C)).set 32 ((@s9 (vJ es [] 0 k al y0 y1 [] D (e.ks.map b9) (e.ls.map Val.row) [] [] [] [])))) q8 (((@p487 (vJ es [] 0 k al y0 y1 [] D (e.ks.map b9) (e.ls.map Val.row) [] [] [] [])).set 31 (.cells (vJ es [] 0 k al y0 y1 [] D (e.ks.map b9) (e.ls.map Val.row) [] [] [] []).C)).set 32 ((@s9 (vJ es [] 0 k al y0 y1 [] D (e.ks.map b9) (e.ls.map Val.row) [] [] [] [])))):=e3s (v:=(vJ es [] 0 k al y0 y1 [] D (e.ks.map b9) (e.ls.map Val.row) [] [] [] [])) (show MOK 0 from⟨by decide,by decide⟩) hl (by have h:=o9 (es:=es) rfl (c85 (vJ es [] 0 k al y0 y1 [] D (e.ks.map b9) (e.ls.map Val.row) [] [] [] [])) hs (by omega) hg;rw[Option.getD_some,show e.row=[.str e.t,.str e.id,.list false (e.ks.map b9),.list false (e.ls.map Val.row)]from rfl,hid,i]at h;exact cvt h (by kernel_rfl))
theorem e1L {al:List Nat} {y0 y1:AV} {D:List AV} {k:Int} (hk:k=1∨k=2∨k=3) {es:List Ent} (hs:j0 es) (hl:es.length≤13) {e:Ent} (hid:e.id=[99]) (i:e.t=a3X) (hg:n9 es [99]=some e):Ev e7 112 [k33,T0,k94,Z1] (@p488 (vJ es [] 0 k al y0 y1 [] D (e.ks.map b9) (e.ls.map Val.row) [] [] [] [])) q8 (@p488 (vJ es [] 0 k al y0 y1 [] D (e.ks.map b9) (e.ls.map Val.row) [] [] [] [])):=e9F (v:=(vJ es [] 0 k al y0 y1 [] D (e.ks.map b9) (e.ls.map Val.row) [] [] [] [])) (show MOK 0 from⟨by decide,by decide⟩) hl (by have h:=o9 (es:=es) rfl (d1v (vJ es [] 0 k al y0 y1 [] D (e.ks.map b9) (e.ls.map Val.row) [] [] [] [])) hs (by omega) hg;rw[Option.getD_some,show e.row=[.str e.t,.str e.id,.list false (e.ks.map b9),.list false (e.ls.map Val.row)]from rfl,hid,i]at h;exact cvt h (by kernel_rfl))
theorem e9E {al:List Nat} {y0 y1:AV} {D:List AV} {k:Int} (hk:k=1∨k=2∨k=3) {es:List Ent} (hs:j0 es) (hl:es.length≤13) {ks:List (List Nat)} {ls:List Val} {R:Nat→Rw} (i:ls.map Val.row=g8 R ks.length) (j:ks.Sublist personK) (hg:n9 es [99]=some ⟨s7,[99],ks,ls⟩):Ev e7 45 (@a5H (vJ es (i8 es (r8 ks ls)) 0 k al y0 y1 [] D (ks.map b9) (g8 R ks.length) ((up1 (i6 5) ks (g8 R ks.length)).1.map b9) (up1 (i6 5) ks (g8 R ks.length)).2 ((up2 (i6 5) l9 ks (g8 R ks.length)).1.map b9) (up2 (i6 5) l9 ks (g8 R ks.length)).2)) (@c9y (vJ es (i8 es (r8 ks ls)) 0 k al y0 y1 [] D (ks.map b9) (g8 R ks.length) ((up1 (i6 5) ks (g8 R ks.length)).1.map b9) (up1 (i6 5) ks (g8 R ks.length)).2 ((up2 (i6 5) l9 ks (g8 R ks.length)).1.map b9) (up2 (i6 5) l9 ks (g8 R ks.length)).2)) a8R (((@p512 (vJ es (i8 es (r8 ks ls)) 0 k al y0 y1 [] D (ks.map b9) (g8 R ks.length) ((up1 (i6 5) ks (g8 R ks.length)).1.map b9) (up1 (i6 5) ks (g8 R ks.length)).2 ((up2 (i6 5) l9 ks (g8 R ks.length)).1.map b9) (up2 (i6 5) l9 ks (g8 R ks.length)).2)).set 50 (E1)).set 32 ((@b5F (vJ es (i8 es (r8 ks ls)) 0 k al y0 y1 [] D (ks.map b9) (g8 R ks.length) ((up1 (i6 5) ks (g8 R ks.length)).1.map b9) (up1 (i6 5) ks (g8 R ks.length)).2 ((up2 (i6 5) l9 ks (g8 R ks.length)).1.map b9) (up2 (i6 5) l9 ks (g8 R ks.length)).2)))):=e12 (v:=(vJ es (i8 es (r8 ks ls)) 0 k al y0 y1 [] D (ks.map b9) (g8 R ks.length) ((up1 (i6 5) ks (g8 R ks.length)).1.map b9) (up1 (i6 5) ks (g8 R ks.length)).2 ((up2 (i6 5) l9 ks (g8 R ks.length)).1.map b9) (up2 (i6 5) l9 ks (g8 R ks.length)).2)) (show MOK 0 from⟨by decide,by decide⟩) hl (by
 have h:=o9 (es:=es) rfl (d5h (vJ es (i8 es (r8 ks ls)) 0 k al y0 y1 [] D (ks.map b9) (g8 R ks.length) ((up1 (i6 5) ks (g8 R ks.length)).1.map b9) (up1 (i6 5) ks (g8 R ks.length)).2 ((up2 (i6 5) l9 ks (g8 R ks.length)).1.map b9) (up2 (i6 5) l9 ks (g8 R ks.length)).2)) hs (by omega) hg;simp only[Option.getD_some,Ent.row,i]at h;exact cvt h (by kernel_rfl)) (ev_ofG (k:=400) (List.map_inj_left.1 (d9B al y0 y1 D k es _ R) ks (J5 j))) (ev_ofG (k:=400) (List.map_inj_left.1 (d8r al y0 y1 D k es _ R) ks (J5 j))) (by
 have h:=b0b (es:=es) (x:=r8 ks ls) rfl (c8H (vJ es (i8 es (r8 ks ls)) 0 k al y0 y1 [] D (ks.map b9) (g8 R ks.length) ((up1 (i6 5) ks (g8 R ks.length)).1.map b9) (up1 (i6 5) ks (g8 R ks.length)).2 ((up2 (i6 5) l9 ks (g8 R ks.length)).1.map b9) (up2 (i6 5) l9 ks (g8 R ks.length)).2)) hs (by omega) (S6 (id:=[99]) hg) (c9i (vJ es (i8 es (r8 ks ls)) 0 k al y0 y1 [] D (ks.map b9) (g8 R ks.length) ((up1 (i6 5) ks (g8 R ks.length)).1.map b9) (up1 (i6 5) ks (g8 R ks.length)).2 ((up2 (i6 5) l9 ks (g8 R ks.length)).1.map b9) (up2 (i6 5) l9 ks (g8 R ks.length)).2));have e:=a5R i;rw[show(r8 ks ls).row=[.str s7,.str [99],.list false ((r8 ks ls).ks.map b9),.list false ((r8 ks ls).ls.map Val.row)]from rfl,show(r8 ks ls).ks=(up2 (i6 5) l9 ks (g8 R ks.length)).1 by rw[e],show(r8 ks ls).ls.map Val.row=(up2 (i6 5) l9 ks (g8 R ks.length)).2 by rw[e]]at h;exact cvt h (by kernel_rfl)) (by
 have h:=o9 (es:=i8 es (r8 ks ls)) (a1m (S6 (id:=[99]) hg)) (c7Y (vJ es (i8 es (r8 ks ls)) 0 k al y0 y1 [] D (ks.map b9) (g8 R ks.length) ((up1 (i6 5) ks (g8 R ks.length)).1.map b9) (up1 (i6 5) ks (g8 R ks.length)).2 ((up2 (i6 5) l9 ks (g8 R ks.length)).1.map b9) (up2 (i6 5) l9 ks (g8 R ks.length)).2)) (L0 hs _) (by rw[a1m (x:=r8 ks ls) (S6 (id:=[99]) hg)]; omega) (Y9 (r8 ks ls) es);have e:=a5R i;rw[Option.getD_some,show(r8 ks ls).row=[.str s7,.str [99],.list false ((r8 ks ls).ks.map b9),.list false ((r8 ks ls).ls.map Val.row)]from rfl,show(r8 ks ls).ks=(up2 (i6 5) l9 ks (g8 R ks.length)).1 by rw[e],show(r8 ks ls).ls.map Val.row=(up2 (i6 5) l9 ks (g8 R ks.length)).2 by rw[e]]at h;exact cvt h (by kernel_rfl)) (d77 _ _ _ _ hk _ _ _ _ _ _ _ _ _ _ _) (ev_ofG (k:=400) (List.map_inj_left.1 (e0x al y0 y1 D k es _ R) ks (J5 j)))
theorem e8b {al:List Nat} {y0 y1:AV} {D:List AV} {k:Int} (hk:k=1∨k=2∨k=3) {es:List Ent} (hs:j0 es) (hl:es.length≤13) {t:List Nat} {K L:List (List AV)} (i:@b9F (vJ es [] 0 k al y0 y1 t D K L [] [] [] [])):Ev e7 45 (@a5H (vJ es [] 0 k al y0 y1 t D K L [] [] [] [])) (((@p454 (vJ es [] 0 k al y0 y1 t D K L [] [] [] [])).set 33 ((@p85 (vJ es [] 0 k al y0 y1 t D K L [] [] [] [])))).set 33 ((@a1w (vJ es [] 0 k al y0 y1 t D K L [] [] [] [])))) p84 (@b6n (vJ es [] 0 k al y0 y1 t D K L [] [] [] [])):=e8x (v:=(vJ es [] 0 k al y0 y1 t D K L [] [] [] [])) (show MOK 0 from⟨by decide,by decide⟩) hl i
theorem e3f {al:List Nat} {y0 y1:AV} {D:List AV} {k:Int} (hk:k=1∨k=2∨k=3) {es:List Ent} (hs:j0 es) (hl:es.length≤13) (hg:n9 es [97]=none):Ev e7 112 [k33,L3,k13,X9] (@p527 (vJ es [] 0 k al y0 y1 [] D [] [] [] [] [] [])) q8 (@p527 (vJ es [] 0 k al y0 y1 [] D [] [] [] [] [] [])):=e8c (v:=(vJ es [] 0 k al y0 y1 [] D [] [] [] [] [] [])) (show MOK 0 from⟨by decide,by decide⟩) hl (cvt (o9 (es:=es) rfl (d0n (vJ es [] 0 k al y0 y1 [] D [] [] [] [] [] [])) hs (by omega) hg) (by kernel_rfl))
theorem e2G {al:List Nat} {y0 y1:AV} {D:List AV} {k:Int} (hk:k=1∨k=2∨k=3) {es:List Ent} (hs:j0 es) (hl:es.length≤13) {e:Ent} (hid:e.id=[97]) (i:e.t=Z3) (hg:n9 es [97]=some e):Ev e7 112 [k33,L3,k13,X9] (((@p527 (vJ es [] 0 k al y0 y1 [] D (e.ks.map b9) (e.ls.map Val.row) [] [] [] [])).set 31 (.cells (vJ es [] 0 k al y0 y1 [] D (e.ks.map b9) (e.ls.map Val.row) [] [] [] []).C)).set 32 ((@s9 (vJ es [] 0 k al y0 y1 [] D (e.ks.map b9) (e.ls.map Val.row) [] [] [] [])))) q8 (((@p527 (vJ es [] 0 k al y0 y1 [] D (e.ks.map b9) (e.ls.map Val.row) [] [] [] [])).set 31 (.cells (vJ es [] 0 k al y0 y1 [] D (e.ks.map b9) (e.ls.map Val.row) [] [] [] []).C)).set 32 ((@s9 (vJ es [] 0 k al y0 y1 [] D (e.ks.map b9) (e.ls.map Val.row) [] [] [] [])))):=e4d (v:=(vJ es [] 0 k al y0 y1 [] D (e.ks.map b9) (e.ls.map Val.row) [] [] [] [])) (show MOK 0 from⟨by decide,by decide⟩) hl (by have h:=o9 (es:=es) rfl (d7p (vJ es [] 0 k al y0 y1 [] D (e.ks.map b9) (e.ls.map Val.row) [] [] [] [])) hs (by omega) hg;rw[Option.getD_some,show e.row=[.str e.t,.str e.id,.list false (e.ks.map b9),.list false (e.ls.map Val.row)]from rfl,hid,i]at h;exact cvt h (by kernel_rfl))
theorem e5n {al:List Nat} {y0 y1:AV} {D:List AV} {k:Int} (hk:k=1∨k=2∨k=3) {es:List Ent} (hs:j0 es) (hl:es.length≤13) {e:Ent} (hid:e.id=[97]) (i:e.t=a3X) (hg:n9 es [97]=some e):Ev e7 112 [k33,L3,k13,X9] (@p528 (vJ es [] 0 k al y0 y1 [] D (e.ks.map b9) (e.ls.map Val.row) [] [] [] [])) q8 (@p528 (vJ es [] 0 k al y0 y1 [] D (e.ks.map b9) (e.ls.map Val.row) [] [] [] [])):=e40 (v:=(vJ es [] 0 k al y0 y1 [] D (e.ks.map b9) (e.ls.map Val.row) [] [] [] [])) (show MOK 0 from⟨by decide,by decide⟩) hl (by have h:=o9 (es:=es) rfl (d5k (vJ es [] 0 k al y0 y1 [] D (e.ks.map b9) (e.ls.map Val.row) [] [] [] [])) hs (by omega) hg;rw[Option.getD_some,show e.row=[.str e.t,.str e.id,.list false (e.ks.map b9),.list false (e.ls.map Val.row)]from rfl,hid,i]at h;exact cvt h (by kernel_rfl))
theorem e2H {al:List Nat} {y0 y1:AV} {D:List AV} {k:Int} (hk:k=1∨k=2∨k=3) {es:List Ent} (hs:j0 es) (hl:es.length≤13) {m:Int} (hm:MOK m) {ks:List (List Nat)} {ls:List Val} (i:ks.Sublist personK.tail) (hg:n9 es [97]=some ⟨s7,[97],m5::ks,vI m::ls⟩):Ev e7 45 (@a1B (vJ es (l8 es [97]) m k al y0 y1 [] D ((m5::ks).map b9) (i6 m::ls.map Val.row) [] [] [] [])) (@b31 (vJ es (l8 es [97]) m k al y0 y1 [] D ((m5::ks).map b9) (i6 m::ls.map Val.row) [] [] [] [])) (@a8m (vJ es (l8 es [97]) m k al y0 y1 [] D ((m5::ks).map b9) (i6 m::ls.map Val.row) [] [] [] [])) ((@p558 (vJ es (l8 es [97]) m k al y0 y1 [] D ((m5::ks).map b9) (i6 m::ls.map Val.row) [] [] [] [])).set 32 ((@b1d (vJ es (l8 es [97]) m k al y0 y1 [] D ((m5::ks).map b9) (i6 m::ls.map Val.row) [] [] [] [])))):=e5D (v:=(vJ es (l8 es [97]) m k al y0 y1 [] D ((m5::ks).map b9) (i6 m::ls.map Val.row) [] [] [] [])) hm hl (by
 have h:=o9 (es:=es) rfl (b83 (vJ es (l8 es [97]) m k al y0 y1 [] D ((m5::ks).map b9) (i6 m::ls.map Val.row) [] [] [] [])) hs (by omega) hg;simp only[Option.getD_some,Ent.row,List.map_cons,a5e]at h;exact cvt h (by kernel_rfl)) (by
 have h:=o9 (es:=es) rfl (b7U (vJ es (l8 es [97]) m k al y0 y1 [] D ((m5::ks).map b9) (i6 m::ls.map Val.row) [] [] [] [])) hs (by omega) hg;simp only[Option.getD_some,Ent.row,List.map_cons,a5e]at h;exact cvt h (by kernel_rfl)) (c2v _ _ _ _ hk _ _ _ _ _ _ _ _ _ _ _) (ev_ofG (k:=400) (List.map_inj_left.1 (d93 al y0 y1 D k es _ m _) ks (J5 i))) (cvt (a0j (es:=es) rfl (d2H (vJ es (l8 es [97]) m k al y0 y1 [] D ((m5::ks).map b9) (i6 m::ls.map Val.row) [] [] [] [])) hs (by omega) (S6 (id:=[97]) hg) (c8F (vJ es (l8 es [97]) m k al y0 y1 [] D ((m5::ks).map b9) (i6 m::ls.map Val.row) [] [] [] []))) (by kernel_rfl))
theorem e6B {al:List Nat} {y0 y1:AV} {D:List AV} {k:Int} (hk:k=1∨k=2∨k=3) {es:List Ent} (hs:j0 es) (hl:es.length≤13) {ks:List (List Nat)} {ls:List Val} (i:ks.Sublist personK.tail) (hg:n9 es [97]=some ⟨s7,[97],ks,ls⟩):Ev e7 45 (@a1B (vJ es (l8 es [97]) 0 k al y0 y1 [] D (ks.map b9) (ls.map Val.row) [] [] [] [])) (@b31 (vJ es (l8 es [97]) 0 k al y0 y1 [] D (ks.map b9) (ls.map Val.row) [] [] [] [])) a8Y ((@p569 (vJ es (l8 es [97]) 0 k al y0 y1 [] D (ks.map b9) (ls.map Val.row) [] [] [] [])).set 32 ((@a2X (vJ es (l8 es [97]) 0 k al y0 y1 [] D (ks.map b9) (ls.map Val.row) [] [] [] [])))):=e7z (v:=(vJ es (l8 es [97]) 0 k al y0 y1 [] D (ks.map b9) (ls.map Val.row) [] [] [] [])) (show MOK 0 from⟨by decide,by decide⟩) hl (cvt (o9 (es:=es) rfl (b83 (vJ es (l8 es [97]) 0 k al y0 y1 [] D (ks.map b9) (ls.map Val.row) [] [] [] [])) hs (by omega) hg) (by kernel_rfl)) (cvt (o9 (es:=es) rfl (b7U (vJ es (l8 es [97]) 0 k al y0 y1 [] D (ks.map b9) (ls.map Val.row) [] [] [] [])) hs (by omega) hg) (by kernel_rfl)) (c2v _ _ _ _ hk _ _ _ _ _ _ _ _ _ _ _) (ev_ofG (k:=400) (List.map_inj_left.1 (d9i al y0 y1 D k es _ _) ks (J5 i))) (cvt (a0j (es:=es) rfl (d3J (vJ es (l8 es [97]) 0 k al y0 y1 [] D (ks.map b9) (ls.map Val.row) [] [] [] [])) hs (by omega) (S6 (id:=[97]) hg) (d58 (vJ es (l8 es [97]) 0 k al y0 y1 [] D (ks.map b9) (ls.map Val.row) [] [] [] []))) (by kernel_rfl))
theorem e4C {al:List Nat} {y0 y1:AV} {D:List AV} {k:Int} (hk:k=1∨k=2∨k=3) {es:List Ent} (hs:j0 es) (hl:es.length≤13) {t:List Nat} {K L:List (List AV)} (i:@b9v (vJ es [] 0 k al y0 y1 t D K L [] [] [] [])):Ev e7 45 (@a1B (vJ es [] 0 k al y0 y1 t D K L [] [] [] [])) (@p571 (vJ es [] 0 k al y0 y1 t D K L [] [] [] [])) p84 (@b6o (vJ es [] 0 k al y0 y1 t D K L [] [] [] [])):=e84 (v:=(vJ es [] 0 k al y0 y1 t D K L [] [] [] [])) (show MOK 0 from⟨by decide,by decide⟩) hl i
theorem e61 {al:List Nat} {y0 y1:AV} {D:List AV} {k:Int} (hk:k=1∨k=2∨k=3) {es:List Ent} (hs:j0 es) (hl:es.length≤13) (hg:n9 es [98]=none):Ev e7 112 [k33,U3,k62,Y5] (@p574 (vJ es [] 0 k al y0 y1 [] D [] [] [] [] [] [])) q8 (@p574 (vJ es [] 0 k al y0 y1 [] D [] [] [] [] [] [])):=e7F (v:=(vJ es [] 0 k al y0 y1 [] D [] [] [] [] [] [])) (show MOK 0 from⟨by decide,by decide⟩) hl (cvt (o9 (es:=es) rfl (d5O (vJ es [] 0 k al y0 y1 [] D [] [] [] [] [] [])) hs (by omega) hg) (by kernel_rfl))
theorem e8Q {al:List Nat} {y0 y1:AV} {D:List AV} {k:Int} (hk:k=1∨k=2∨k=3) {es:List Ent} (hs:j0 es) (hl:es.length≤13) {e:Ent} (hid:e.id=[98]) (i:e.t=s7) (hg:n9 es [98]=some e):Ev e7 112 [k33,U3,k62,Y5] (((@p574 (vJ es [] 0 k al y0 y1 [] D (e.ks.map b9) (e.ls.map Val.row) [] [] [] [])).set 31 (.cells (vJ es [] 0 k al y0 y1 [] D (e.ks.map b9) (e.ls.map Val.row) [] [] [] []).C)).set 32 ((@s9 (vJ es [] 0 k al y0 y1 [] D (e.ks.map b9) (e.ls.map Val.row) [] [] [] [])))) q8 (((@p574 (vJ es [] 0 k al y0 y1 [] D (e.ks.map b9) (e.ls.map Val.row) [] [] [] [])).set 31 (.cells (vJ es [] 0 k al y0 y1 [] D (e.ks.map b9) (e.ls.map Val.row) [] [] [] []).C)).set 32 ((@s9 (vJ es [] 0 k al y0 y1 [] D (e.ks.map b9) (e.ls.map Val.row) [] [] [] [])))):=e65 (v:=(vJ es [] 0 k al y0 y1 [] D (e.ks.map b9) (e.ls.map Val.row) [] [] [] [])) (show MOK 0 from⟨by decide,by decide⟩) hl (by have h:=o9 (es:=es) rfl (c9Q (vJ es [] 0 k al y0 y1 [] D (e.ks.map b9) (e.ls.map Val.row) [] [] [] [])) hs (by omega) hg;rw[Option.getD_some,show e.row=[.str e.t,.str e.id,.list false (e.ks.map b9),.list false (e.ls.map Val.row)]from rfl,hid,i]at h;exact cvt h (by kernel_rfl))
theorem e42 {al:List Nat} {y0 y1:AV} {D:List AV} {k:Int} (hk:k=1∨k=2∨k=3) {es:List Ent} (hs:j0 es) (hl:es.length≤13) {e:Ent} (hid:e.id=[98]) (i:e.t=a3X) (hg:n9 es [98]=some e):Ev e7 112 [k33,U3,k62,Y5] (@p575 (vJ es [] 0 k al y0 y1 [] D (e.ks.map b9) (e.ls.map Val.row) [] [] [] [])) q8 (@p575 (vJ es [] 0 k al y0 y1 [] D (e.ks.map b9) (e.ls.map Val.row) [] [] [] [])):=e2o (v:=(vJ es [] 0 k al y0 y1 [] D (e.ks.map b9) (e.ls.map Val.row) [] [] [] [])) (show MOK 0 from⟨by decide,by decide⟩) hl (by have h:=o9 (es:=es) rfl (d3t (vJ es [] 0 k al y0 y1 [] D (e.ks.map b9) (e.ls.map Val.row) [] [] [] [])) hs (by omega) hg;rw[Option.getD_some,show e.row=[.str e.t,.str e.id,.list false (e.ks.map b9),.list false (e.ls.map Val.row)]from rfl,hid,i]at h;exact cvt h (by kernel_rfl))
theorem e2r {al:List Nat} {y0 y1:AV} {D:List AV} {k:Int} (hk:k=1∨k=2∨k=3) {es:List Ent} (hs:j0 es) (hl:es.length≤13) {ks:List (List Nat)} {ls:List Val} (hg:n9 es [98]=some ⟨Z3,[98],ks,ls⟩):Ev e7 45 (@a4Y (vJ es (l8 es [98]) 0 k al y0 y1 [] D (ks.map b9) (ls.map Val.row) [] [] [] [])) (@d3m (vJ es (l8 es [98]) 0 k al y0 y1 [] D (ks.map b9) (ls.map Val.row) [] [] [] [])) a8p ((@p598 (vJ es (l8 es [98]) 0 k al y0 y1 [] D (ks.map b9) (ls.map Val.row) [] [] [] [])).set 32 ((@a2X (vJ es (l8 es [98]) 0 k al y0 y1 [] D (ks.map b9) (ls.map Val.row) [] [] [] [])))):=e87 (v:=(vJ es (l8 es [98]) 0 k al y0 y1 [] D (ks.map b9) (ls.map Val.row) [] [] [] [])) (show MOK 0 from⟨by decide,by decide⟩) hl (cvt (o9 (es:=es) rfl (d7f (vJ es (l8 es [98]) 0 k al y0 y1 [] D (ks.map b9) (ls.map Val.row) [] [] [] [])) hs (by omega) hg) (by kernel_rfl)) (cvt (o9 (es:=es) rfl (c9D (vJ es (l8 es [98]) 0 k al y0 y1 [] D (ks.map b9) (ls.map Val.row) [] [] [] [])) hs (by omega) hg) (by kernel_rfl)) (d7X _ _ _ _ hk _ _ _ _ _ _ _ _ _ _ _) (cvt (a0j (es:=es) rfl (c9k (vJ es (l8 es [98]) 0 k al y0 y1 [] D (ks.map b9) (ls.map Val.row) [] [] [] [])) hs (by omega) (S6 (id:=[98]) hg) (d2o (vJ es (l8 es [98]) 0 k al y0 y1 [] D (ks.map b9) (ls.map Val.row) [] [] [] []))) (by kernel_rfl))
theorem e52 {al:List Nat} {y0 y1:AV} {D:List AV} {k:Int} (hk:k=1∨k=2∨k=3) {es:List Ent} (hs:j0 es) (hl:es.length≤13) {t:List Nat} {K L:List (List AV)} (i:@c07 (vJ es [] 0 k al y0 y1 t D K L [] [] [] [])):Ev e7 45 (@a4Y (vJ es [] 0 k al y0 y1 t D K L [] [] [] [])) ((@p571 (vJ es [] 0 k al y0 y1 t D K L [] [] [] [])).set 33 ((@a4Z (vJ es [] 0 k al y0 y1 t D K L [] [] [] [])))) p84 (@b6x (vJ es [] 0 k al y0 y1 t D K L [] [] [] [])):=e7o (v:=(vJ es [] 0 k al y0 y1 t D K L [] [] [] [])) (show MOK 0 from⟨by decide,by decide⟩) hl i
def a5D (x:Option Cb.Obj):List AV:=match x with|some (.cells cs)=>cs|_=>[]
def rC (q v pr:AV) (k:Int):List AV:=[.ptr 2 0,q,.nils,v,.int .u8 6,.int .i64 0,.str [],.list false [],.list false [],pr,.int .i64 k]
def fD0:AV:=(.agg [(.str [99,114,101,97,116,101,68,111,103]),(.list false [[(.str [105,100]),(.list false []),(.str [73,68]),(.list false []),(.bool true),(.bool false),(.int .u8 0),(.int .i64 0),(.str []),(.list false []),(.list false [])],[(.str [105,110,112,117,116]),(.list false []),(.str [68,111,103,73,110]),(.list false []),(.bool true),(.bool false),(.int .u8 0),(.int .i64 0),(.str []),(.list false []),(.list false [])]]),(.str [68,111,103]),(.list false []),(.bool false),(.bool false),(.int .u8 0),(.int .i64 0),(.str []),(.list false []),(.list false [])])
def e77 (al:List Nat):List AV:=a5D ((show St from(@p72 (vJ [] [] 0 1 al .undef .undef [] [] [] [] [] [] [] [])))[33]?)
def fD1:AV:=(.agg [(.str [99,114,101,97,116,101,67,97,116]),(.list false [[(.str [105,100]),(.list false []),(.str [73,68]),(.list false []),(.bool true),(.bool false),(.int .u8 0),(.int .i64 0),(.str []),(.list false []),(.list false [])],[(.str [105,110,112,117,116]),(.list false []),(.str [67,97,116,73,110]),(.list false []),(.bool true),(.bool false),(.int .u8 0),(.int .i64 0),(.str []),(.list false []),(.list false [])]]),(.str [67,97,116]),(.list false []),(.bool false),(.bool false),(.int .u8 0),(.int .i64 0),(.str []),(.list false []),(.list false [])])
def e7l (al:List Nat):List AV:=a5D ((show St from((@p72 (vJ [] [] 0 1 al .undef .undef [] [] [] [] [] [] [] [])).set 33 ((@p85 (vJ [] [] 0 1 al .undef .undef [] [] [] [] [] [] [] [])))))[33]?)
def fD2:AV:=(.agg [(.str [117,112,100,97,116,101,80,101,114,115,111,110]),(.list false [[(.str [105,100]),(.list false []),(.str [73,68]),(.list false []),(.bool true),(.bool false),(.int .u8 0),(.int .i64 0),(.str []),(.list false []),(.list false [])],[(.str [105,110,112,117,116]),(.list false []),(.str [80,101,114,115,111,110,73,110]),(.list false []),(.bool true),(.bool false),(.int .u8 0),(.int .i64 0),(.str []),(.list false []),(.list false [])]]),(.str [80,101,114,115,111,110]),(.list false []),(.bool false),(.bool false),(.int .u8 0),(.int .i64 0),(.str []),(.list false []),(.list false [])])
def e67 (al:List Nat):List AV:=a5D ((show St from(((@p72 (vJ [] [] 0 1 al .undef .undef [] [] [] [] [] [] [] [])).set 33 ((@p85 (vJ [] [] 0 1 al .undef .undef [] [] [] [] [] [] [] [])))).set 33 ((@a1w (vJ [] [] 0 1 al .undef .undef [] [] [] [] [] [] [] [])))))[33]?)
def fD3:AV:=(.agg [(.str [100,101,108,101,116,101,80,101,114,115,111,110]),(.list false [[(.str [105,100]),(.list false []),(.str [73,68]),(.list false []),(.bool true),(.bool false),(.int .u8 0),(.int .i64 0),(.str []),(.list false []),(.list false [])]]),(.str [80,101,114,115,111,110]),(.list false []),(.bool false),(.bool false),(.int .u8 0),(.int .i64 0),(.str []),(.list false []),(.list false [])])
def e7J (al:List Nat):List AV:=a5D ((show St from(@p357 (vJ [] [] 0 1 al .undef .undef [] [] [] [] [] [] [] [])))[33]?)
def fD4:AV:=(.agg [(.str [100,101,108,101,116,101,67,97,116]),(.list false [[(.str [105,100]),(.list false []),(.str [73,68]),(.list false []),(.bool true),(.bool false),(.int .u8 0),(.int .i64 0),(.str []),(.list false []),(.list false [])]]),(.str [67,97,116]),(.list false []),(.bool false),(.bool false),(.int .u8 0),(.int .i64 0),(.str []),(.list false []),(.list false [])])
def e4g (al:List Nat):List AV:=a5D ((show St from((@p357 (vJ [] [] 0 1 al .undef .undef [] [] [] [] [] [] [] [])).set 33 ((@a4Z (vJ [] [] 0 1 al .undef .undef [] [] [] [] [] [] [] [])))))[33]?)
def fD:Nat→AV
 | 0=>fD0|1=>fD1|2=>fD2|3=>fD3|_=>fD4
def sel:Nat→List Nat→List AV
 | 0=>e77|1=>e7l|2=>e67|3=>e7J|_=>e4g
def U8 (es:List Ent):Option (List Ent):=if C4 [97] es then none else some (i8 es E5)
def T3 (es:List Ent):Option (List Ent):=if C4 [98] es then none else some (i8 es E0)
def I1 (es:List Ent):Option (List Ent):=match n9 es [99]with|some e=>if e.t=s7 then some (i8 es (r8 e.ks e.ls))else none|none=>none
def F7 (es:List Ent):Option (List Ent):=match n9 es [97]with|some e=>if e.t=s7 then some (l8 es [97])else none|none=>none
def I2 (es:List Ent):Option (List Ent):=match n9 es [98]with|some e=>if e.t=Z3 then some (l8 es [98])else none|none=>none
def step:Nat→List Ent→Option (List Ent)
 | 0=>U8|1=>T3|2=>I1|3=>F7|_=>I2
def prS (P:Bool):AV:=bif P then .sl 35 0 1 2 else .nils
def bst (P:Bool) (kd:Nat) (es:List Ent) (al:List Nat) (y0 y1:AV) (D:List AV) (k:Int):St:=T_b0++[.cells (l6 es),.cells (rC (.sl 34 0 1 4) (.sl 31 0 es.length 4) (prS P) k),.cells (sel kd al),.cells D]++(bif P then [.cells [y0,y1]]else [])
structure Out (P:Bool) (kd:Nat) (es:List Ent) (al:List Nat) (y0 y1:AV) (D:List AV) (k:Int) (ok:Bool) (es2:List Ent):Prop where
 out:∃ (a:AV) (F:St) (o2 pp:Nat) (pr:AV) (k2:Int),Ev e7 45 [.ptr 32 0,fD kd,.agg [.str al,.sl 33 0 1 7]] (bst P kd es al y0 y1 D k) a F∧(∃ x y z ks vs,a=.agg [.int .u8 x,.int .i64 y,.str z,.list false ks,.list false vs])∧(∀ ρ,a.rn ρ=a)∧(bst P kd es al y0 y1 D k).length≤F.length∧F.take 31=T_b0∧F[31]?=some (.cells (l6 es))∧F[32]?=some (.cells (rC (.sl 34 0 1 4) (.sl o2 0 es2.length 4) pr k2))∧F[33]?=some (.cells (sel kd al))∧F[34]?=some (.cells D)∧F[o2]?=some (.cells (l6 es2))∧(o2=31∨36≤o2) ∧
  (bif ok then k2=k+1∧pr=prS P∧(P=true→F[35]?=some (.cells [y0,y1]))else k2=k∧36≤pp∧(bif P then pr=.sl pp 0 2 2 else pr=.sl pp 0 1 2∧∃ c:Int,F[pp]?=some (.cells [.list false [[.str al]],.int .i64 c])))
theorem a01 {es:List Ent} (hs:j0 es) {id:List Nat} (h:C4 id es=true):(l8 es id).length=es.length - 1:=by have:=a3t h;rw[a7k id hs,if_pos h,List.length_append,List.length_take,List.length_drop];omega
theorem e4H {al:List Nat} {y0 y1:AV} {D:List AV} {k:Int} (hk:k=1∨k=2∨k=3) {es:List Ent} (hs:j0 es) (hl:es.length≤13) (hg:n9 es [97]=none):Out false 0 es al y0 y1 D k true (i8 es E5):=by have i:((i8 es E5)).length=(es.length+1):=Q6 (a0k hg);have h:=e6d (al:=al) (y0:=y0) (y1:=y1) (D:=D) hk hs hl hg;refine⟨(.agg [(.int .u8 6),(.int .i64 0),(.str []),(.list false [[(.str [98,97,114,107,115])]]),(.list false [[(.int .u8 3),(.int .i64 1),(.str []),(.list false []),(.list false [])]])]),((@p53 (vJ es (i8 es E5) 0 k al y0 y1 [] D [] [] [] [] [] [])).set 32 ((@p76 (vJ es (i8 es E5) 0 k al y0 y1 [] D [] [] [] [] [] [])))),44,0,prS false,(k+1),cvt h (by kernel_rfl),⟨_,_,_,_,_,rfl⟩,fun ρ=>by kernel_rfl,Nat.le_of_ble_eq_true (by kernel_rfl),(by kernel_rfl),(by kernel_rfl),?_,(by kernel_rfl),(by kernel_rfl),(by kernel_rfl),by decide,⟨rfl,rfl,fun h=>by cases h⟩⟩;rw[i];kernel_rfl
theorem e8Z {al:List Nat} {y0 y1:AV} {D:List AV} {k:Int} (hk:k=1∨k=2∨k=3) {es:List Ent} (hs:j0 es) (hl:es.length≤13) {t:List Nat} {K L:List (List AV)} (j:@Q15 (vJ es [] 0 k al y0 y1 t D K L [] [] [] [])):Out false 0 es al y0 y1 D k false es:=by have i:(es).length=es.length:=rfl;have h:=e4t (al:=al) (y0:=y0) (y1:=y1) (D:=D) hk hs hl j;refine⟨(.agg [(.int .u8 0),(.int .i64 0),(.str []),(.list false []),(.list false [])]),(@p83 (vJ es [] 0 k al y0 y1 t D K L [] [] [] [])),31,41,(.sl 41 0 1 2),k,cvt h (by kernel_rfl),⟨_,_,_,_,_,rfl⟩,fun ρ=>by kernel_rfl,Nat.le_of_ble_eq_true (by kernel_rfl),(by kernel_rfl),(by kernel_rfl),?_,(by kernel_rfl),(by kernel_rfl),(by kernel_rfl),by decide,⟨rfl,by decide,rfl,7,(by kernel_rfl)⟩⟩;rw[i];kernel_rfl
theorem e2K {al:List Nat} {y0 y1:AV} {D:List AV} {k:Int} (hk:k=1∨k=2∨k=3) {es:List Ent} (hs:j0 es) (hl:es.length≤13) (hg:n9 es [98]=none):Out false 1 es al y0 y1 D k true (i8 es E0):=by have i:((i8 es E0)).length=(es.length+1):=Q6 (a0k hg);have h:=e3x (al:=al) (y0:=y0) (y1:=y1) (D:=D) hk hs hl hg;refine⟨(.agg [(.int .u8 6),(.int .i64 0),(.str []),(.list false [[(.str [110,97,109,101])]]),(.list false [[(.int .u8 2),(.int .i64 0),(.str [81]),(.list false []),(.list false [])]])]),((@p135 (vJ es (i8 es E0) 0 k al y0 y1 [] D [] [] [] [] [] [])).set 32 ((@b6r (vJ es (i8 es E0) 0 k al y0 y1 [] D [] [] [] [] [] [])))),50,0,prS false,(k+1),cvt h (by kernel_rfl),⟨_,_,_,_,_,rfl⟩,fun ρ=>by kernel_rfl,Nat.le_of_ble_eq_true (by kernel_rfl),(by kernel_rfl),(by kernel_rfl),?_,(by kernel_rfl),(by kernel_rfl),(by kernel_rfl),by decide,⟨rfl,rfl,fun h=>by cases h⟩⟩;rw[i];kernel_rfl
theorem e62 {al:List Nat} {y0 y1:AV} {D:List AV} {k:Int} (hk:k=1∨k=2∨k=3) {es:List Ent} (hs:j0 es) (hl:es.length≤13) {t:List Nat} {K L:List (List AV)} (j:@Q32 (vJ es [] 0 k al y0 y1 t D K L [] [] [] [])):Out false 1 es al y0 y1 D k false es:=by have i:(es).length=es.length:=rfl;have h:=e7H (al:=al) (y0:=y0) (y1:=y1) (D:=D) hk hs hl j;refine⟨(.agg [(.int .u8 0),(.int .i64 0),(.str []),(.list false []),(.list false [])]),(@b3K (vJ es [] 0 k al y0 y1 t D K L [] [] [] [])),31,43,(.sl 43 0 1 2),k,cvt h (by kernel_rfl),⟨_,_,_,_,_,rfl⟩,fun ρ=>by kernel_rfl,Nat.le_of_ble_eq_true (by kernel_rfl),(by kernel_rfl),(by kernel_rfl),?_,(by kernel_rfl),(by kernel_rfl),(by kernel_rfl),by decide,⟨rfl,by decide,rfl,7,(by kernel_rfl)⟩⟩;rw[i];kernel_rfl
theorem e5K {al:List Nat} {y0 y1:AV} {D:List AV} {k:Int} (hk:k=1∨k=2∨k=3) {es:List Ent} (hs:j0 es) (hl:es.length≤13) {ks:List (List Nat)} {ls:List Val} {R:Nat→Rw} (j:ls.map Val.row=g8 R ks.length) (l:ks.Sublist personK) (hg:n9 es [99]=some ⟨s7,[99],ks,ls⟩):Out false 2 es al y0 y1 D k true (i8 es (r8 ks ls)):=by have i:((i8 es (r8 ks ls))).length=es.length:=a1m (x:=r8 ks ls) (S6 (id:=[99]) hg);have h:=e1K (al:=al) (y0:=y0) (y1:=y1) (D:=D) hk hs hl j l hg;refine⟨(.agg [(.int .u8 6),(.int .i64 0),(.str []),(.list false [[(.str [97,103,101])]]),(.list false [[(.int .u8 1),(.int .i64 5),(.str []),(.list false []),(.list false [])]])]),(((@p235 (vJ es (i8 es (r8 ks ls)) 0 k al y0 y1 [] D (ks.map b9) (g8 R ks.length) ((up1 (i6 5) ks (g8 R ks.length)).1.map b9) (up1 (i6 5) ks (g8 R ks.length)).2 ((up2 (i6 5) l9 ks (g8 R ks.length)).1.map b9) (up2 (i6 5) l9 ks (g8 R ks.length)).2)).set 49 (E1)).set 32 ((@b4U (vJ es (i8 es (r8 ks ls)) 0 k al y0 y1 [] D (ks.map b9) (g8 R ks.length) ((up1 (i6 5) ks (g8 R ks.length)).1.map b9) (up1 (i6 5) ks (g8 R ks.length)).2 ((up2 (i6 5) l9 ks (g8 R ks.length)).1.map b9) (up2 (i6 5) l9 ks (g8 R ks.length)).2)))),46,0,prS false,(k+1),cvt h (by kernel_rfl),⟨_,_,_,_,_,rfl⟩,fun ρ=>by kernel_rfl,Nat.le_of_ble_eq_true (by kernel_rfl),(by kernel_rfl),(by kernel_rfl),?_,(by kernel_rfl),(by kernel_rfl),(by kernel_rfl),by decide,⟨rfl,rfl,fun h=>by cases h⟩⟩;rw[i];kernel_rfl
theorem c1S {al:List Nat} {y0 y1:AV} {D:List AV} {k:Int} (hk:k=1∨k=2∨k=3) {es:List Ent} (hs:j0 es) (hl:es.length≤13) {t:List Nat} {K L:List (List AV)} (j:@Q57 (vJ es [] 0 k al y0 y1 t D K L [] [] [] [])):Out false 2 es al y0 y1 D k false es:=by have i:(es).length=es.length:=rfl;have h:=e1M (al:=al) (y0:=y0) (y1:=y1) (D:=D) hk hs hl j;refine⟨(.agg [(.int .u8 0),(.int .i64 0),(.str []),(.list false []),(.list false [])]),(@b4i (vJ es [] 0 k al y0 y1 t D K L [] [] [] [])),31,42,(.sl 42 0 1 2),k,cvt h (by kernel_rfl),⟨_,_,_,_,_,rfl⟩,fun ρ=>by kernel_rfl,Nat.le_of_ble_eq_true (by kernel_rfl),(by kernel_rfl),(by kernel_rfl),?_,(by kernel_rfl),(by kernel_rfl),(by kernel_rfl),by decide,⟨rfl,by decide,rfl,6,(by kernel_rfl)⟩⟩;rw[i];kernel_rfl
theorem e28 {al:List Nat} {y0 y1:AV} {D:List AV} {k:Int} (hk:k=1∨k=2∨k=3) {es:List Ent} (hs:j0 es) (hl:es.length≤13) {m:Int} (hm:MOK m) {ks:List (List Nat)} {ls:List Val} (j:ks.Sublist personK.tail) (hg:n9 es [97]=some ⟨s7,[97],m5::ks,vI m::ls⟩):Out false 3 es al y0 y1 D k true (l8 es [97]):=by have i:((l8 es [97])).length=(es.length - 1):=a01 hs (S6 hg);have h:=e7Y (al:=al) (y0:=y0) (y1:=y1) (D:=D) hk hs hl hm j hg;refine⟨(.agg [(.int .u8 6),(.int .i64 0),(.str []),(.list false [[(.str [97,103,101])]]),(.list false [[(.int .u8 1),(.int .i64 m),(.str []),(.list false []),(.list false [])]])]),((@p335 (vJ es (l8 es [97]) m k al y0 y1 [] D ((m5::ks).map b9) (i6 m::ls.map Val.row) [] [] [] [])).set 32 ((@a9W (vJ es (l8 es [97]) m k al y0 y1 [] D ((m5::ks).map b9) (i6 m::ls.map Val.row) [] [] [] [])))),50,0,prS false,(k+1),cvt h (by kernel_rfl),⟨_,_,_,_,_,rfl⟩,fun ρ=>by kernel_rfl,Nat.le_of_ble_eq_true (by kernel_rfl),(by kernel_rfl),(by kernel_rfl),?_,(by kernel_rfl),(by kernel_rfl),(by kernel_rfl),by decide,⟨rfl,rfl,fun h=>by cases h⟩⟩;rw[i];kernel_rfl
theorem e7x {al:List Nat} {y0 y1:AV} {D:List AV} {k:Int} (hk:k=1∨k=2∨k=3) {es:List Ent} (hs:j0 es) (hl:es.length≤13) {ks:List (List Nat)} {ls:List Val} (j:ks.Sublist personK.tail) (hg:n9 es [97]=some ⟨s7,[97],ks,ls⟩):Out false 3 es al y0 y1 D k true (l8 es [97]):=by have i:((l8 es [97])).length=(es.length - 1):=a01 hs (S6 hg);have h:=e8g (al:=al) (y0:=y0) (y1:=y1) (D:=D) hk hs hl j hg;refine⟨(.agg [(.int .u8 6),(.int .i64 0),(.str []),(.list false [[(.str [97,103,101])]]),(.list false [[(.int .u8 0),(.int .i64 0),(.str []),(.list false []),(.list false [])]])]),((@p354 (vJ es (l8 es [97]) 0 k al y0 y1 [] D (ks.map b9) (ls.map Val.row) [] [] [] [])).set 32 ((@a2W (vJ es (l8 es [97]) 0 k al y0 y1 [] D (ks.map b9) (ls.map Val.row) [] [] [] [])))),48,0,prS false,(k+1),cvt h (by kernel_rfl),⟨_,_,_,_,_,rfl⟩,fun ρ=>by kernel_rfl,Nat.le_of_ble_eq_true (by kernel_rfl),(by kernel_rfl),(by kernel_rfl),?_,(by kernel_rfl),(by kernel_rfl),(by kernel_rfl),by decide,⟨rfl,rfl,fun h=>by cases h⟩⟩;rw[i];kernel_rfl
theorem c1R {al:List Nat} {y0 y1:AV} {D:List AV} {k:Int} (hk:k=1∨k=2∨k=3) {es:List Ent} (hs:j0 es) (hl:es.length≤13) {t:List Nat} {K L:List (List AV)} (j:@Q92 (vJ es [] 0 k al y0 y1 t D K L [] [] [] [])):Out false 3 es al y0 y1 D k false es:=by have i:(es).length=es.length:=rfl;have h:=e4O (al:=al) (y0:=y0) (y1:=y1) (D:=D) hk hs hl j;refine⟨(.agg [(.int .u8 0),(.int .i64 0),(.str []),(.list false []),(.list false [])]),(@b4Q (vJ es [] 0 k al y0 y1 t D K L [] [] [] [])),31,38,(.sl 38 0 1 2),k,cvt h (by kernel_rfl),⟨_,_,_,_,_,rfl⟩,fun ρ=>by kernel_rfl,Nat.le_of_ble_eq_true (by kernel_rfl),(by kernel_rfl),(by kernel_rfl),?_,(by kernel_rfl),(by kernel_rfl),(by kernel_rfl),by decide,⟨rfl,by decide,rfl,6,(by kernel_rfl)⟩⟩;rw[i];kernel_rfl
theorem e4D {al:List Nat} {y0 y1:AV} {D:List AV} {k:Int} (hk:k=1∨k=2∨k=3) {es:List Ent} (hs:j0 es) (hl:es.length≤13) {ks:List (List Nat)} {ls:List Val} (hg:n9 es [98]=some ⟨Z3,[98],ks,ls⟩):Out false 4 es al y0 y1 D k true (l8 es [98]):=by have i:((l8 es [98])).length=(es.length - 1):=a01 hs (S6 hg);have h:=e55 (al:=al) (y0:=y0) (y1:=y1) (D:=D) hk hs hl hg;refine⟨(.agg [(.int .u8 6),(.int .i64 0),(.str []),(.list false [[(.str [95,95,116,121,112,101,110,97,109,101])]]),(.list false [[(.int .u8 2),(.int .i64 0),(.str [67,97,116]),(.list false []),(.list false [])]])]),((@p420 (vJ es (l8 es [98]) 0 k al y0 y1 [] D (ks.map b9) (ls.map Val.row) [] [] [] [])).set 32 ((@a2W (vJ es (l8 es [98]) 0 k al y0 y1 [] D (ks.map b9) (ls.map Val.row) [] [] [] [])))),48,0,prS false,(k+1),cvt h (by kernel_rfl),⟨_,_,_,_,_,rfl⟩,fun ρ=>by kernel_rfl,Nat.le_of_ble_eq_true (by kernel_rfl),(by kernel_rfl),(by kernel_rfl),?_,(by kernel_rfl),(by kernel_rfl),(by kernel_rfl),by decide,⟨rfl,rfl,fun h=>by cases h⟩⟩;rw[i];kernel_rfl
theorem c0s {al:List Nat} {y0 y1:AV} {D:List AV} {k:Int} (hk:k=1∨k=2∨k=3) {es:List Ent} (hs:j0 es) (hl:es.length≤13) {t:List Nat} {K L:List (List AV)} (j:@b89 (vJ es [] 0 k al y0 y1 t D K L [] [] [] [])):Out false 4 es al y0 y1 D k false es:=by have i:(es).length=es.length:=rfl;have h:=e39 (al:=al) (y0:=y0) (y1:=y1) (D:=D) hk hs hl j;refine⟨(.agg [(.int .u8 0),(.int .i64 0),(.str []),(.list false []),(.list false [])]),(@b6j (vJ es [] 0 k al y0 y1 t D K L [] [] [] [])),31,38,(.sl 38 0 1 2),k,cvt h (by kernel_rfl),⟨_,_,_,_,_,rfl⟩,fun ρ=>by kernel_rfl,Nat.le_of_ble_eq_true (by kernel_rfl),(by kernel_rfl),(by kernel_rfl),?_,(by kernel_rfl),(by kernel_rfl),(by kernel_rfl),by decide,⟨rfl,by decide,rfl,6,(by kernel_rfl)⟩⟩;rw[i];kernel_rfl
theorem e6C {al:List Nat} {y0 y1:AV} {D:List AV} {k:Int} (hk:k=1∨k=2∨k=3) {es:List Ent} (hs:j0 es) (hl:es.length≤13) (hg:n9 es [97]=none):Out true 0 es al y0 y1 D k true (i8 es E5):=by have i:((i8 es E5)).length=(es.length+1):=Q6 (a0k hg);have h:=e5X (al:=al) (y0:=y0) (y1:=y1) (D:=D) hk hs hl hg;refine⟨(.agg [(.int .u8 6),(.int .i64 0),(.str []),(.list false [[(.str [98,97,114,107,115])]]),(.list false [[(.int .u8 3),(.int .i64 1),(.str []),(.list false []),(.list false [])]])]),((@p446 (vJ es (i8 es E5) 0 k al y0 y1 [] D [] [] [] [] [] [])).set 32 ((@b5W (vJ es (i8 es E5) 0 k al y0 y1 [] D [] [] [] [] [] [])))),45,0,prS true,(k+1),cvt h (by kernel_rfl),⟨_,_,_,_,_,rfl⟩,fun ρ=>by kernel_rfl,Nat.le_of_ble_eq_true (by kernel_rfl),(by kernel_rfl),(by kernel_rfl),?_,(by kernel_rfl),(by kernel_rfl),(by kernel_rfl),by decide,⟨rfl,rfl,fun _=>(by kernel_rfl)⟩⟩;rw[i];kernel_rfl
theorem e18 {al:List Nat} {y0 y1:AV} {D:List AV} {k:Int} (hk:k=1∨k=2∨k=3) {es:List Ent} (hs:j0 es) (hl:es.length≤13) {t:List Nat} {K L:List (List AV)} (j:@b9B (vJ es [] 0 k al y0 y1 t D K L [] [] [] [])):Out true 0 es al y0 y1 D k false es:=by have i:(es).length=es.length:=rfl;have h:=e4k (al:=al) (y0:=y0) (y1:=y1) (D:=D) hk hs hl j;refine⟨(.agg [(.int .u8 0),(.int .i64 0),(.str []),(.list false []),(.list false [])]),(@b54 (vJ es [] 0 k al y0 y1 t D K L [] [] [] [])),31,42,(.sl 42 0 2 2),k,cvt h (by kernel_rfl),⟨_,_,_,_,_,rfl⟩,fun ρ=>by kernel_rfl,Nat.le_of_ble_eq_true (by kernel_rfl),(by kernel_rfl),(by kernel_rfl),?_,(by kernel_rfl),(by kernel_rfl),(by kernel_rfl),by decide,⟨rfl,by decide,rfl⟩⟩;rw[i];kernel_rfl
theorem e85 {al:List Nat} {y0 y1:AV} {D:List AV} {k:Int} (hk:k=1∨k=2∨k=3) {es:List Ent} (hs:j0 es) (hl:es.length≤13) (hg:n9 es [98]=none):Out true 1 es al y0 y1 D k true (i8 es E0):=by have i:((i8 es E0)).length=(es.length+1):=Q6 (a0k hg);have h:=e5I (al:=al) (y0:=y0) (y1:=y1) (D:=D) hk hs hl hg;refine⟨(.agg [(.int .u8 6),(.int .i64 0),(.str []),(.list false [[(.str [110,97,109,101])]]),(.list false [[(.int .u8 2),(.int .i64 0),(.str [81]),(.list false []),(.list false [])]])]),((@p475 (vJ es (i8 es E0) 0 k al y0 y1 [] D [] [] [] [] [] [])).set 32 ((@b35 (vJ es (i8 es E0) 0 k al y0 y1 [] D [] [] [] [] [] [])))),51,0,prS true,(k+1),cvt h (by kernel_rfl),⟨_,_,_,_,_,rfl⟩,fun ρ=>by kernel_rfl,Nat.le_of_ble_eq_true (by kernel_rfl),(by kernel_rfl),(by kernel_rfl),?_,(by kernel_rfl),(by kernel_rfl),(by kernel_rfl),by decide,⟨rfl,rfl,fun _=>(by kernel_rfl)⟩⟩;rw[i];kernel_rfl
theorem e2L {al:List Nat} {y0 y1:AV} {D:List AV} {k:Int} (hk:k=1∨k=2∨k=3) {es:List Ent} (hs:j0 es) (hl:es.length≤13) {t:List Nat} {K L:List (List AV)} (j:@b9N (vJ es [] 0 k al y0 y1 t D K L [] [] [] [])):Out true 1 es al y0 y1 D k false es:=by have i:(es).length=es.length:=rfl;have h:=e8U (al:=al) (y0:=y0) (y1:=y1) (D:=D) hk hs hl j;refine⟨(.agg [(.int .u8 0),(.int .i64 0),(.str []),(.list false []),(.list false [])]),(@b6s (vJ es [] 0 k al y0 y1 t D K L [] [] [] [])),31,44,(.sl 44 0 2 2),k,cvt h (by kernel_rfl),⟨_,_,_,_,_,rfl⟩,fun ρ=>by kernel_rfl,Nat.le_of_ble_eq_true (by kernel_rfl),(by kernel_rfl),(by kernel_rfl),?_,(by kernel_rfl),(by kernel_rfl),(by kernel_rfl),by decide,⟨rfl,by decide,rfl⟩⟩;rw[i];kernel_rfl
theorem e2U {al:List Nat} {y0 y1:AV} {D:List AV} {k:Int} (hk:k=1∨k=2∨k=3) {es:List Ent} (hs:j0 es) (hl:es.length≤13) {ks:List (List Nat)} {ls:List Val} {R:Nat→Rw} (j:ls.map Val.row=g8 R ks.length) (l:ks.Sublist personK) (hg:n9 es [99]=some ⟨s7,[99],ks,ls⟩):Out true 2 es al y0 y1 D k true (i8 es (r8 ks ls)):=by have i:((i8 es (r8 ks ls))).length=es.length:=a1m (x:=r8 ks ls) (S6 (id:=[99]) hg);have h:=e9E (al:=al) (y0:=y0) (y1:=y1) (D:=D) hk hs hl j l hg;refine⟨(.agg [(.int .u8 6),(.int .i64 0),(.str []),(.list false [[(.str [97,103,101])]]),(.list false [[(.int .u8 1),(.int .i64 5),(.str []),(.list false []),(.list false [])]])]),(((@p512 (vJ es (i8 es (r8 ks ls)) 0 k al y0 y1 [] D (ks.map b9) (g8 R ks.length) ((up1 (i6 5) ks (g8 R ks.length)).1.map b9) (up1 (i6 5) ks (g8 R ks.length)).2 ((up2 (i6 5) l9 ks (g8 R ks.length)).1.map b9) (up2 (i6 5) l9 ks (g8 R ks.length)).2)).set 50 (E1)).set 32 ((@b5F (vJ es (i8 es (r8 ks ls)) 0 k al y0 y1 [] D (ks.map b9) (g8 R ks.length) ((up1 (i6 5) ks (g8 R ks.length)).1.map b9) (up1 (i6 5) ks (g8 R ks.length)).2 ((up2 (i6 5) l9 ks (g8 R ks.length)).1.map b9) (up2 (i6 5) l9 ks (g8 R ks.length)).2)))),47,0,prS true,(k+1),cvt h (by kernel_rfl),⟨_,_,_,_,_,rfl⟩,fun ρ=>by kernel_rfl,Nat.le_of_ble_eq_true (by kernel_rfl),(by kernel_rfl),(by kernel_rfl),?_,(by kernel_rfl),(by kernel_rfl),(by kernel_rfl),by decide,⟨rfl,rfl,fun _=>(by kernel_rfl)⟩⟩;rw[i];kernel_rfl
theorem c04 {al:List Nat} {y0 y1:AV} {D:List AV} {k:Int} (hk:k=1∨k=2∨k=3) {es:List Ent} (hs:j0 es) (hl:es.length≤13) {t:List Nat} {K L:List (List AV)} (j:@b9F (vJ es [] 0 k al y0 y1 t D K L [] [] [] [])):Out true 2 es al y0 y1 D k false es:=by have i:(es).length=es.length:=rfl;have h:=e8b (al:=al) (y0:=y0) (y1:=y1) (D:=D) hk hs hl j;refine⟨(.agg [(.int .u8 0),(.int .i64 0),(.str []),(.list false []),(.list false [])]),(@b6n (vJ es [] 0 k al y0 y1 t D K L [] [] [] [])),31,43,(.sl 43 0 2 2),k,cvt h (by kernel_rfl),⟨_,_,_,_,_,rfl⟩,fun ρ=>by kernel_rfl,Nat.le_of_ble_eq_true (by kernel_rfl),(by kernel_rfl),(by kernel_rfl),?_,(by kernel_rfl),(by kernel_rfl),(by kernel_rfl),by decide,⟨rfl,by decide,rfl⟩⟩;rw[i];kernel_rfl
theorem e6p {al:List Nat} {y0 y1:AV} {D:List AV} {k:Int} (hk:k=1∨k=2∨k=3) {es:List Ent} (hs:j0 es) (hl:es.length≤13) {m:Int} (hm:MOK m) {ks:List (List Nat)} {ls:List Val} (j:ks.Sublist personK.tail) (hg:n9 es [97]=some ⟨s7,[97],m5::ks,vI m::ls⟩):Out true 3 es al y0 y1 D k true (l8 es [97]):=by have i:((l8 es [97])).length=(es.length - 1):=a01 hs (S6 hg);have h:=e2H (al:=al) (y0:=y0) (y1:=y1) (D:=D) hk hs hl hm j hg;refine⟨(.agg [(.int .u8 6),(.int .i64 0),(.str []),(.list false [[(.str [97,103,101])]]),(.list false [[(.int .u8 1),(.int .i64 m),(.str []),(.list false []),(.list false [])]])]),((@p558 (vJ es (l8 es [97]) m k al y0 y1 [] D ((m5::ks).map b9) (i6 m::ls.map Val.row) [] [] [] [])).set 32 ((@b1d (vJ es (l8 es [97]) m k al y0 y1 [] D ((m5::ks).map b9) (i6 m::ls.map Val.row) [] [] [] [])))),51,0,prS true,(k+1),cvt h (by kernel_rfl),⟨_,_,_,_,_,rfl⟩,fun ρ=>by kernel_rfl,Nat.le_of_ble_eq_true (by kernel_rfl),(by kernel_rfl),(by kernel_rfl),?_,(by kernel_rfl),(by kernel_rfl),(by kernel_rfl),by decide,⟨rfl,rfl,fun _=>(by kernel_rfl)⟩⟩;rw[i];kernel_rfl
theorem e9p {al:List Nat} {y0 y1:AV} {D:List AV} {k:Int} (hk:k=1∨k=2∨k=3) {es:List Ent} (hs:j0 es) (hl:es.length≤13) {ks:List (List Nat)} {ls:List Val} (j:ks.Sublist personK.tail) (hg:n9 es [97]=some ⟨s7,[97],ks,ls⟩):Out true 3 es al y0 y1 D k true (l8 es [97]):=by have i:((l8 es [97])).length=(es.length - 1):=a01 hs (S6 hg);have h:=e6B (al:=al) (y0:=y0) (y1:=y1) (D:=D) hk hs hl j hg;refine⟨(.agg [(.int .u8 6),(.int .i64 0),(.str []),(.list false [[(.str [97,103,101])]]),(.list false [[(.int .u8 0),(.int .i64 0),(.str []),(.list false []),(.list false [])]])]),((@p569 (vJ es (l8 es [97]) 0 k al y0 y1 [] D (ks.map b9) (ls.map Val.row) [] [] [] [])).set 32 ((@a2X (vJ es (l8 es [97]) 0 k al y0 y1 [] D (ks.map b9) (ls.map Val.row) [] [] [] [])))),49,0,prS true,(k+1),cvt h (by kernel_rfl),⟨_,_,_,_,_,rfl⟩,fun ρ=>by kernel_rfl,Nat.le_of_ble_eq_true (by kernel_rfl),(by kernel_rfl),(by kernel_rfl),?_,(by kernel_rfl),(by kernel_rfl),(by kernel_rfl),by decide,⟨rfl,rfl,fun _=>(by kernel_rfl)⟩⟩;rw[i];kernel_rfl
theorem b9p {al:List Nat} {y0 y1:AV} {D:List AV} {k:Int} (hk:k=1∨k=2∨k=3) {es:List Ent} (hs:j0 es) (hl:es.length≤13) {t:List Nat} {K L:List (List AV)} (j:@b9v (vJ es [] 0 k al y0 y1 t D K L [] [] [] [])):Out true 3 es al y0 y1 D k false es:=by have i:(es).length=es.length:=rfl;have h:=e4C (al:=al) (y0:=y0) (y1:=y1) (D:=D) hk hs hl j;refine⟨(.agg [(.int .u8 0),(.int .i64 0),(.str []),(.list false []),(.list false [])]),(@b6o (vJ es [] 0 k al y0 y1 t D K L [] [] [] [])),31,39,(.sl 39 0 2 2),k,cvt h (by kernel_rfl),⟨_,_,_,_,_,rfl⟩,fun ρ=>by kernel_rfl,Nat.le_of_ble_eq_true (by kernel_rfl),(by kernel_rfl),(by kernel_rfl),?_,(by kernel_rfl),(by kernel_rfl),(by kernel_rfl),by decide,⟨rfl,by decide,rfl⟩⟩;rw[i];kernel_rfl
theorem e47 {al:List Nat} {y0 y1:AV} {D:List AV} {k:Int} (hk:k=1∨k=2∨k=3) {es:List Ent} (hs:j0 es) (hl:es.length≤13) {ks:List (List Nat)} {ls:List Val} (hg:n9 es [98]=some ⟨Z3,[98],ks,ls⟩):Out true 4 es al y0 y1 D k true (l8 es [98]):=by have i:((l8 es [98])).length=(es.length - 1):=a01 hs (S6 hg);have h:=e2r (al:=al) (y0:=y0) (y1:=y1) (D:=D) hk hs hl hg;refine⟨(.agg [(.int .u8 6),(.int .i64 0),(.str []),(.list false [[(.str [95,95,116,121,112,101,110,97,109,101])]]),(.list false [[(.int .u8 2),(.int .i64 0),(.str [67,97,116]),(.list false []),(.list false [])]])]),((@p598 (vJ es (l8 es [98]) 0 k al y0 y1 [] D (ks.map b9) (ls.map Val.row) [] [] [] [])).set 32 ((@a2X (vJ es (l8 es [98]) 0 k al y0 y1 [] D (ks.map b9) (ls.map Val.row) [] [] [] [])))),49,0,prS true,(k+1),cvt h (by kernel_rfl),⟨_,_,_,_,_,rfl⟩,fun ρ=>by kernel_rfl,Nat.le_of_ble_eq_true (by kernel_rfl),(by kernel_rfl),(by kernel_rfl),?_,(by kernel_rfl),(by kernel_rfl),(by kernel_rfl),by decide,⟨rfl,rfl,fun _=>(by kernel_rfl)⟩⟩;rw[i];kernel_rfl
theorem c0Z {al:List Nat} {y0 y1:AV} {D:List AV} {k:Int} (hk:k=1∨k=2∨k=3) {es:List Ent} (hs:j0 es) (hl:es.length≤13) {t:List Nat} {K L:List (List AV)} (j:@c07 (vJ es [] 0 k al y0 y1 t D K L [] [] [] [])):Out true 4 es al y0 y1 D k false es:=by have i:(es).length=es.length:=rfl;have h:=e52 (al:=al) (y0:=y0) (y1:=y1) (D:=D) hk hs hl j;refine⟨(.agg [(.int .u8 0),(.int .i64 0),(.str []),(.list false []),(.list false [])]),(@b6x (vJ es [] 0 k al y0 y1 t D K L [] [] [] [])),31,39,(.sl 39 0 2 2),k,cvt h (by kernel_rfl),⟨_,_,_,_,_,rfl⟩,fun ρ=>by kernel_rfl,Nat.le_of_ble_eq_true (by kernel_rfl),(by kernel_rfl),(by kernel_rfl),?_,(by kernel_rfl),(by kernel_rfl),(by kernel_rfl),by decide,⟨rfl,by decide,rfl⟩⟩;rw[i];kernel_rfl
end Go.Cb.CodeA
namespace Go.Cb.CodeA
open Go Go.Cb Go.Cb.G
section
variable (ρ:Nat→Nat)
theorem a9a:∀ ks:List (List Nat),S5 ρ (ks.map b9)=ks.map b9
 | []=>rfl
 | k::ks=>by rw[List.map_cons,S5,a9a ks]; rfl
mutual
theorem Val.row_rn:∀ v:Val,F8 ρ v.row=v.row
 | .mk k n s ks ls=>by rw[Val.row]; simp only[F8,AV.rn,a9a,Val.rows_rn ls]
theorem Val.rows_rn:∀ vs:List Val,S5 ρ (Val.rows vs)=Val.rows vs
 | []=>by simp only[Val.rows,S5]
 | v::vs=>by simp only[Val.rows,S5,Val.row_rn v,Val.rows_rn vs]
end
theorem d3Z (e:Ent):e.row.map (AV.rn ρ)=e.row:=by unfold Ent.row;simp only[List.map_cons,List.map_nil,AV.rn,a9a];rw[← Val.rows_map,Val.rows_rn]
theorem N4:∀ es:List Ent,(l6 es).map (AV.rn ρ)=l6 es
 | []=>rfl
 | e::es=>by rw[show l6 (e::es)=e.row++l6 es from rfl,List.map_append,d3Z,N4 es]
theorem b6p:∀ kd,(fD kd).rn ρ=fD kd
 | 0=>by kernel_rfl
 | 1=>by kernel_rfl
 | 2=>by kernel_rfl
 | 3=>by kernel_rfl
 | _+4=>by kernel_rfl
theorem a5N (al:List Nat):∀ kd,(sel kd al).map (AV.rn ρ)=sel kd al
 | 0=>by kernel_rfl
 | 1=>by kernel_rfl
 | 2=>by kernel_rfl
 | 3=>by kernel_rfl
 | _+4=>by kernel_rfl
end
def qm (l:List Nat) (i:Nat):Nat:=bif Nat.blt i 31 then i else l.getD (i - 31) 0
theorem E6 {l:List Nat} {i:Nat} (h:i < 31):qm l i=i:=by unfold qm;rw[show Nat.blt i 31=true by rw[Nat.blt_eq]; exact h];rfl
theorem b2S (T:St) (l:List Nat):T_b0.map (Obj.rn (RN.rho T 35 (qm l)))=T_b0:=by kernel_rfl
theorem b1N (T:St) (l:List Nat):T_b0.map (Obj.rn (RN.rho T 36 (qm l)))=T_b0:=by kernel_rfl
theorem b0_len:T_b0.length=31:=by kernel_rfl
structure At (P:Bool) (T:St) (o p s qa pp:Nat) (kd:Nat) (al:List Nat) (es:List Ent) (y0 y1:AV) (D:List AV) (k:Int):Prop where
 base:∀ a,a < 31→T[a]?=T_b0[a]?
 eo:T[o]?=some (.cells (l6 es))
 ep:T[p]?=some (.cells (rC (.sl qa 0 1 4) (.sl o 0 es.length 4) (bif P then .sl pp 0 1 2 else .nils) k))
 ese:T[s]?=some (.cells (sel kd al))
 eq:T[qa]?=some (.cells D)
 epp:P=true→T[pp]?=some (.cells [y0,y1])
 d:31≤o∧31≤p∧31≤s∧31≤qa∧o≠p∧o≠s∧o≠qa∧p≠s∧p≠qa∧s≠qa
 dp:P=true→31≤pp∧pp≠o∧pp≠p∧pp≠s∧pp≠qa
 sD:∀ ρ:Nat→Nat,D.map (AV.rn ρ)=D
 sy:∀ ρ:Nat→Nat,y0.rn ρ=y0∧y1.rn ρ=y1
structure Did (P:Bool) (T:St) (o p s qa pp:Nat) (kd:Nat) (al:List Nat) (es:List Ent) (y0 y1:AV) (D:List AV) (k:Int) (ok:Bool) (es2:List Ent) (a:AV) (T':St) (o2 pp2:Nat) (pr:AV) (k2:Int):Prop where
 ev:Ev e7 45 [.ptr p 0,fD kd,.agg [.str al,.sl s 0 1 7]] T a T'
 row:∃ x y z ks vs,a=.agg [.int .u8 x,.int .i64 y,.str z,.list false ks,.list false vs]
 len:T.length≤T'.length
 base:∀ a,a < 31→T'[a]?=T_b0[a]?
 eo:T'[o]?=some (.cells (l6 es))
 ep:T'[p]?=some (.cells (rC (.sl qa 0 1 4) (.sl o2 0 es2.length 4) pr k2))
 ese:T'[s]?=some (.cells (sel kd al))
 eq:T'[qa]?=some (.cells D)
 e2:T'[o2]?=some (.cells (l6 es2))
 o2:o2=o∨T.length≤o2
 other:∀ j,31≤j→j < T.length→j≠o→j≠p→j≠s→j≠qa→(P=true→j≠pp)→T'[j]?=T[j]?
 res:bif ok then k2=k+1∧pr=(bif P then .sl pp 0 1 2 else .nils)∧(P=true→T'[pp]?=some (.cells [y0,y1]))else k2=k∧T.length≤pp2∧(bif P then pr=.sl pp2 0 2 2 else pr=.sl pp2 0 1 2∧∃ c:Int,T'[pp2]?=some (.cells [.list false [[.str al]],.int .i64 c]))
theorem q9 {T:St} {i:Nat} {x:Cb.Obj} (h:T[i]?=some x):i < T.length:=(List.getElem?_eq_some_iff.1 h).1
theorem RN.fmt_sh:RN.ExtRn a6M:=fun R as st r st' i h=>by
 unfold a6M at h;split at h
 · split at h
   · rename_i j;cases h;refine⟨?_,i⟩;simp only[List.map_cons,List.map_nil,AV.rn,a6M];rw[if_pos j]
   · cases h
 · cases h
def extR:List Nat:=[21,25,38,183,190,195,261,285,289]
theorem c36:(List.range 400).all (fun f=>match tbl f with|some fn=>fn.code.shu && (fn.ext.isNone || extR.any (Nat.beq f))|none=>true)=true:=by kernel_rfl
theorem tbl_top:Nat.ble tblL.length 40=true:=by kernel_rfl
theorem b23:RN.TblRn tbl:=fun f fn h=>by
 have t:f < 400:=by
  rcases Nat.lt_or_ge f 400 with h1|h1
  · exact h1
  · exfalso;have h:(tblL.getD (f / 10) []).getD (f % 10) none=some fn:=h;have:=Nat.le_of_ble_eq_true tbl_top;rw[show tblL.getD (f / 10) []=[]by rw[List.getD_eq_getElem?_getD,List.getElem?_eq_none (by omega)]; rfl]at h;cases h
 have l:=List.all_eq_true.1 c36 f (List.mem_range.2 t);simp only[h,Bool.and_eq_true,Bool.or_eq_true]at l;refine⟨l.1,fun e i=>?_⟩;rcases l.2 with h1|h1
 · rw[i]at h1; cases h1
 · obtain⟨k,hk,j⟩:=List.any_eq_true.1 h1;have j:=Nat.eq_of_beq_eq_true j;subst j;simp only[extR,List.mem_cons,List.not_mem_nil,or_false]at hk;rcases hk with rfl|rfl|rfl|rfl|rfl|rfl|rfl|rfl|rfl
   · have h:some a21=some fn:=h; cases h; cases i; exact RN.cloneM_sh 4 80
   · have h:some a25=some fn:=h; cases h; cases i; exact RN.cloneX_sh 4 72
   · have h:some a38=some fn:=h; cases h; cases i; exact RN.insert_sh 4 80
   · have h:some a183=some fn:=h; cases h; cases i; exact RN.delete_sh 4 80
   · have h:some c8V=some fn:=h; cases h; cases i; exact RN.idxb_sh
   · have h:some c97=some fn:=h; cases h; cases i; exact RN.text_sh
   · have h:some d5N=some fn:=h; cases h; cases i; exact RN.cloneX_sh 1 16
   · have h:some c8L=some fn:=h; cases h; cases i; exact RN.fmt_sh
   · have h:some c9c=some fn:=h; cases h; cases i; exact RN.puint_sh
theorem a4f:RN.TblRn e7:=fun f fn h=>by
 unfold e7 at h;cases i:Nat.beq f 203 with
 | true =>rw[i]at h;cases h;exact⟨by kernel_rfl,fun e j=>by cases j⟩
 | false =>rw[i]at h;exact b23 f fn h
theorem b8O {T:St} {o p s t Z kd:Nat} {al:List Nat} {es C:List Ent} {y0 y1:AV} {D:List AV} {k:Int} {ok:Bool} (h:At false T o p s t Z kd al es y0 y1 D k) (hO:Out false kd es al y0 y1 D k ok C):∃ a L o2 z pr k2,Did false T o p s t Z kd al es y0 y1 D k ok C a L o2 z pr k2:=by
 obtain⟨a,F,o2,z,pr,k2,O,G,S,Y,f31,fo,fp,fs,fq,f2,ho2,B⟩:=hO.out;obtain⟨d1,d2,d3,d4,d5,d6,d7,d8,d9,d10⟩:=h.d;have hn:(bst false kd es al y0 y1 D k).length=35:=by show(T_b0++_++[]).length=35;rw[List.append_nil,List.length_append,b0_len]; rfl
 have qs:∀ i,31≤i→i < 35→qm [o,p,s,t] i=o∧i=31∨qm [o,p,s,t] i=p∧i=32∨qm [o,p,s,t] i=s∧i=33∨qm [o,p,s,t] i=t∧i=34:=by
  intro i u N;have:i=31∨i=32∨i=33∨i=34:=by omega
  rcases this with rfl|rfl|rfl|rfl
  · exact .inl ⟨rfl,rfl⟩
  · exact .inr (.inl ⟨rfl,rfl⟩)
  · exact .inr (.inr (.inl ⟨rfl,rfl⟩))
  · exact .inr (.inr (.inr ⟨rfl,rfl⟩))
 have lo:=q9 h.eo;have lp:=q9 h.ep;have ls:=q9 h.ese;have lq:=q9 h.eq;have hi:∀ i j,i < 35→j < 35→qm [o,p,s,t] i=qm [o,p,s,t] j→i=j:=by
  intro i j hi M e;by_cases u:i < 31<;>by_cases N:j < 31
  · rw[E6 u,E6 N]at e; exact e
  · rw[E6 u]at e; rcases qs j (by omega) M with⟨x,_⟩|⟨x,_⟩|⟨x,_⟩|⟨x,_⟩<;>omega
  · rw[E6 N]at e; rcases qs i (by omega) hi with⟨x,_⟩|⟨x,_⟩|⟨x,_⟩|⟨x,_⟩<;>omega
  · rcases qs i (by omega) hi with⟨x,_⟩|⟨x,_⟩|⟨x,_⟩|⟨x,_⟩<;>rcases qs j (by omega) M with⟨y,_⟩|⟨y,_⟩|⟨y,_⟩|⟨y,_⟩<;>omega
 have hl:∀ i,i < 35→qm [o,p,s,t] i < T.length:=by
  intro i hi;by_cases u:i < 31
  · rw[E6 u];have:=h.base 30 (by decide);omega
  · rcases qs i (by omega) hi with⟨x,_⟩|⟨x,_⟩|⟨x,_⟩|⟨x,_⟩<;>rw[x]<;>assumption
 have I:RN.rho T 35 (qm [o,p,s,t]) 31=o:=rfl;have U:RN.rho T 35 (qm [o,p,s,t]) 32=p:=rfl;have V:RN.rho T 35 (qm [o,p,s,t]) 33=s:=rfl;have W:RN.rho T 35 (qm [o,p,s,t]) 34=t:=rfl;have X:∀ i,i < 31→RN.rho T 35 (qm [o,p,s,t]) i=i:=fun i hi=>by unfold RN.rho; rw[if_pos (by omega),E6 hi]
 have J:∀ i,35≤i→RN.rho T 35 (qm [o,p,s,t]) i=i - 35+T.length:=fun i hi=>by unfold RN.rho; rw[if_neg (by omega)]
 have bs:∀ i,i < 31→(bst false kd es al y0 y1 D k)[i]?=T_b0[i]?:=fun i hi=>by show(T_b0++_++[])[i]?=_;rw[List.append_nil,List.getElem?_append_left (by rw[b0_len]; exact hi)]
 have hT:∀ i,i < 35→T[qm [o,p,s,t] i]?=((bst false kd es al y0 y1 D k)[i]?).map (Obj.rn (RN.rho T 35 (qm [o,p,s,t]))):=by
  intro i E;by_cases u:i < 31
  · rw[E6 u,bs i u,h.base i u];have:=congrArg (fun l=>l[i]?) (b2S T [o,p,s,t]);rw[List.getElem?_map]at this;exact this.symm
  · rcases qs i (by omega) E with⟨x,e⟩|⟨x,e⟩|⟨x,e⟩|⟨x,e⟩<;>rw[x]<;>subst e
    · rw[h.eo,show(bst false kd es al y0 y1 D k)[31]?=some (.cells (l6 es))by kernel_rfl,Option.map_some,Obj.rn,N4]
    · rw[h.ep,show(bst false kd es al y0 y1 D k)[32]?=some (.cells (rC (.sl 34 0 1 4) (.sl 31 0 es.length 4) (prS false) k))by kernel_rfl];kernel_rfl
    · rw[h.ese,show(bst false kd es al y0 y1 D k)[33]?=some (.cells (sel kd al))by kernel_rfl,Option.map_some,Obj.rn,a5N]
    · rw[h.eq,show(bst false kd es al y0 y1 D k)[34]?=some (.cells D)by kernel_rfl,Option.map_some,Obj.rn,h.sD]
 obtain⟨L,t1,t2,t3,t4⟩:=RN.Ev.framed (T:=T) (n:=35) (q:=qm [o,p,s,t]) hi hl a4f hn.symm hT O;rw[S]at t1;have t1:Ev e7 45 [.ptr p 0,fD kd,.agg [.str al,.sl s 0 1 7]] T a L:=by rw[List.map_cons,List.map_cons,b6p]at t1;exact t1
 have a31:=t4 31;have a32:=t4 32;have a33:=t4 33;have a34:=t4 34;have a2:=t4 o2;rw[I,fo,Option.map_some,Obj.rn,N4]at a31;rw[U,fp]at a32;rw[V,fs,Option.map_some,Obj.rn,a5N]at a33;rw[W,fq,Option.map_some,Obj.rn,h.sD]at a34;rw[f2,Option.map_some,Obj.rn,N4]at a2;refine⟨a,L,RN.rho T 35 (qm [o,p,s,t]) o2,RN.rho T 35 (qm [o,p,s,t]) z,pr.rn (RN.rho T 35 (qm [o,p,s,t])),k2,⟨t1,G,t2,?_,a31,a32.trans (by kernel_rfl),a33,a34,a2,?_,?_,?_⟩⟩
 · intro i hi;have:=t4 i;rw[X i hi]at this;rw[this];have e:F[i]?=T_b0[i]?:=by rw[← f31,List.getElem?_take,if_pos hi]
   rw[e];have:=congrArg (fun l=>l[i]?) (b2S T [o,p,s,t]);rw[List.getElem?_map]at this;exact this
 · rcases ho2 with rfl|ho2
   · exact .inl I
   · exact .inr (by rw[J _ (by omega)]; omega)
 · intro j a0 M n1 n2 n3 n4 _;refine t3 j M fun i hi e=>?_
   by_cases u:i < 31
   · rw[E6 u]at e; omega
   · rcases qs i (by omega) hi with⟨x,_⟩|⟨x,_⟩|⟨x,_⟩|⟨x,_⟩<;>rw[x]at e<;>first|exact n1 e.symm|exact n2 e.symm|exact n3 e.symm|exact n4 e.symm
 · cases ok with
   | true =>obtain⟨rfl,rfl,_⟩:=B;exact⟨rfl,rfl,fun h=>by cases h⟩
   | false =>obtain⟨rfl,a1,rfl,c,hc⟩:=B;have:=t4 z;rw[hc]at this;exact⟨rfl,by rw[J _ (by omega)]; omega,rfl,c,this⟩
end Go.Cb.CodeA
namespace Go.Cb.CodeA
open Go Go.Cb Go.Cb.G
theorem b7B {T:St} {o p s u t kd:Nat} {al:List Nat} {es E:List Ent} {y0 y1:AV} {D:List AV} {k:Int} {ok:Bool} (h:At true T o p s u t kd al es y0 y1 D k) (hO:Out true kd es al y0 y1 D k ok E):∃ a M o2 C pr k2,Did true T o p s u t kd al es y0 y1 D k ok E a M o2 C pr k2:=by
 obtain⟨a,F,o2,C,pr,k2,U,I,V,a1,f31,fo,fp,fs,fq,f2,ho2,B⟩:=hO.out;obtain⟨d1,d2,d3,d4,d5,d6,d7,d8,d9,d10⟩:=h.d;obtain⟨u1,u2,u3,u4,u5⟩:=h.dp rfl;have hn:(bst true kd es al y0 y1 D k).length=36:=by show(T_b0++_++_).length=36;rw[List.length_append,List.length_append,b0_len]; rfl
 have qs:∀ i,31≤i→i < 36→qm [o,p,s,u,t] i=o∧i=31∨qm [o,p,s,u,t] i=p∧i=32∨qm [o,p,s,u,t] i=s∧i=33∨qm [o,p,s,u,t] i=u∧i=34∨qm [o,p,s,u,t] i=t∧i=35:=by
  intro i z O;have:i=31∨i=32∨i=33∨i=34∨i=35:=by omega
  rcases this with rfl|rfl|rfl|rfl|rfl
  · exact .inl ⟨rfl,rfl⟩
  · exact .inr (.inl ⟨rfl,rfl⟩)
  · exact .inr (.inr (.inl ⟨rfl,rfl⟩))
  · exact .inr (.inr (.inr (.inl ⟨rfl,rfl⟩)))
  · exact .inr (.inr (.inr (.inr ⟨rfl,rfl⟩)))
 have lo:=q9 h.eo;have lp:=q9 h.ep;have ls:=q9 h.ese;have lq:=q9 h.eq;have b2:=q9 (h.epp rfl);have hi:∀ i j,i < 36→j < 36→qm [o,p,s,u,t] i=qm [o,p,s,u,t] j→i=j:=by
  intro i j hi N e;by_cases z:i < 31<;>by_cases O:j < 31
  · rw[E6 z,E6 O]at e; exact e
  · rw[E6 z]at e; rcases qs j (by omega) N with⟨x,_⟩|⟨x,_⟩|⟨x,_⟩|⟨x,_⟩|⟨x,_⟩<;>omega
  · rw[E6 O]at e; rcases qs i (by omega) hi with⟨x,_⟩|⟨x,_⟩|⟨x,_⟩|⟨x,_⟩|⟨x,_⟩<;>omega
  · rcases qs i (by omega) hi with⟨x,_⟩|⟨x,_⟩|⟨x,_⟩|⟨x,_⟩|⟨x,_⟩<;>rcases qs j (by omega) N with⟨y,_⟩|⟨y,_⟩|⟨y,_⟩|⟨y,_⟩|⟨y,_⟩<;>omega
 have hl:∀ i,i < 36→qm [o,p,s,u,t] i < T.length:=by
  intro i hi;by_cases z:i < 31
  · rw[E6 z];have:=h.base 30 (by decide);omega
  · rcases qs i (by omega) hi with⟨x,_⟩|⟨x,_⟩|⟨x,_⟩|⟨x,_⟩|⟨x,_⟩<;>rw[x]<;>assumption
 have J:RN.rho T 36 (qm [o,p,s,u,t]) 31=o:=rfl;have W:RN.rho T 36 (qm [o,p,s,u,t]) 32=p:=rfl;have X:RN.rho T 36 (qm [o,p,s,u,t]) 33=s:=rfl;have Z:RN.rho T 36 (qm [o,p,s,u,t]) 35=t:=rfl;have Y:RN.rho T 36 (qm [o,p,s,u,t]) 34=u:=rfl;have a0:∀ i,i < 31→RN.rho T 36 (qm [o,p,s,u,t]) i=i:=fun i hi=>by unfold RN.rho; rw[if_pos (by omega),E6 hi]
 have L:∀ i,36≤i→RN.rho T 36 (qm [o,p,s,u,t]) i=i - 36+T.length:=fun i hi=>by unfold RN.rho; rw[if_neg (by omega)]
 have bs:∀ i,i < 31→(bst true kd es al y0 y1 D k)[i]?=T_b0[i]?:=fun i hi=>by show(T_b0++_++_)[i]?=_;rw[List.append_assoc,List.getElem?_append_left (by rw[b0_len]; exact hi)]
 have hT:∀ i,i < 36→T[qm [o,p,s,u,t] i]?=((bst true kd es al y0 y1 D k)[i]?).map (Obj.rn (RN.rho T 36 (qm [o,p,s,u,t]))):=by
  intro i G;by_cases z:i < 31
  · rw[E6 z,bs i z,h.base i z];have:=congrArg (fun l=>l[i]?) (b1N T [o,p,s,u,t]);rw[List.getElem?_map]at this;exact this.symm
  · rcases qs i (by omega) G with⟨x,e⟩|⟨x,e⟩|⟨x,e⟩|⟨x,e⟩|⟨x,e⟩<;>rw[x]<;>subst e
    · rw[h.eo,show(bst true kd es al y0 y1 D k)[31]?=some (.cells (l6 es))by kernel_rfl,Option.map_some,Obj.rn,N4]
    · rw[h.ep,show(bst true kd es al y0 y1 D k)[32]?=some (.cells (rC (.sl 34 0 1 4) (.sl 31 0 es.length 4) (prS true) k))by kernel_rfl];kernel_rfl
    · rw[h.ese,show(bst true kd es al y0 y1 D k)[33]?=some (.cells (sel kd al))by kernel_rfl,Option.map_some,Obj.rn,a5N]
    · rw[h.eq,show(bst true kd es al y0 y1 D k)[34]?=some (.cells D)by kernel_rfl,Option.map_some,Obj.rn,h.sD]
    · rw[h.epp rfl,show(bst true kd es al y0 y1 D k)[35]?=some (.cells [y0,y1])by kernel_rfl,Option.map_some,Obj.rn,List.map_cons,List.map_cons,List.map_nil,(h.sy _).1,(h.sy _).2]
 obtain⟨M,t1,t2,t3,t4⟩:=RN.Ev.framed (T:=T) (n:=36) (q:=qm [o,p,s,u,t]) hi hl a4f hn.symm hT U;rw[V]at t1;have t1:Ev e7 45 [.ptr p 0,fD kd,.agg [.str al,.sl s 0 1 7]] T a M:=by rw[List.map_cons,List.map_cons,b6p]at t1;exact t1
 have a31:=t4 31;have a32:=t4 32;have a33:=t4 33;have a34:=t4 34;have a2:=t4 o2;rw[J,fo,Option.map_some,Obj.rn,N4]at a31;rw[W,fp]at a32;rw[X,fs,Option.map_some,Obj.rn,a5N]at a33;rw[Y,fq,Option.map_some,Obj.rn,h.sD]at a34;rw[f2,Option.map_some,Obj.rn,N4]at a2;refine⟨a,M,RN.rho T 36 (qm [o,p,s,u,t]) o2,RN.rho T 36 (qm [o,p,s,u,t]) C,pr.rn (RN.rho T 36 (qm [o,p,s,u,t])),k2,⟨t1,I,t2,?_,a31,a32.trans (by kernel_rfl),a33,a34,a2,?_,?_,?_⟩⟩
 · intro i hi;have:=t4 i;rw[a0 i hi]at this;rw[this];have e:F[i]?=T_b0[i]?:=by rw[← f31,List.getElem?_take,if_pos hi]
   rw[e];have:=congrArg (fun l=>l[i]?) (b1N T [o,p,s,u,t]);rw[List.getElem?_map]at this;exact this
 · rcases ho2 with rfl|ho2
   · exact .inl J
   · exact .inr (by rw[L _ (by omega)]; omega)
 · intro j b0 N n1 n2 n3 n4 n5;refine t3 j N fun i hi e=>?_
   by_cases z:i < 31
   · rw[E6 z]at e; omega
   · rcases qs i (by omega) hi with⟨x,_⟩|⟨x,_⟩|⟨x,_⟩|⟨x,_⟩|⟨x,_⟩<;>rw[x]at e<;>first|exact n1 e.symm|exact n2 e.symm|exact n3 e.symm|exact n4 e.symm|exact n5 rfl e.symm
 · cases ok with
   | true =>obtain⟨rfl,rfl,S⟩:=B;have a35:=t4 35;rw[Z,S rfl,Option.map_some,Obj.rn,List.map_cons,List.map_cons,List.map_nil,(h.sy _).1,(h.sy _).2]at a35;exact⟨rfl,rfl,fun _=>a35⟩
   | false =>obtain⟨rfl,b1,rfl⟩:=B;exact⟨rfl,by rw[L _ (by omega)]; omega,rfl⟩
end Go.Cb.CodeA
namespace Go.Cb.CodeA
open Go Go.Cb Go.Cb.G
def e20 (e:Ent):Prop:=(∃ ks ls m,e.ks=m5::ks∧e.ls=vI m::ls∧MOK m∧ks.Sublist personK.tail)∨e.ks.Sublist personK.tail
structure GJ (e:Ent):Prop where
 good:e.Good
 age:e.t=s7→e20 e
theorem Ent.Good.gj {e:Ent} (h:e.Good):GJ e:=⟨h,fun i=>by
 have j:e.ks.Sublist (m5::personK.tail):=by
  rcases h.fam with⟨_,j⟩|h2|h2
  · exact j
  · exact absurd (h2.symm.trans i) (by decide)
  · exact absurd (h2.symm.trans i) (by decide)
 rcases List.sublist_cons_iff.1 j with l|⟨ks,hk,l⟩
 · exact .inr l
 obtain⟨t,id,kk,u⟩:=e;dsimp only at hk i;subst hk;have hl:=h.kl;cases u with
 | nil=>cases hl
 | cons v ls =>obtain⟨m,rfl,hm⟩:=h.ag i (m5,v) (List.mem_cons_self ..) rfl;exact .inl ⟨ks,ls,m,rfl,rfl,hm,l⟩⟩
theorem a0l {es:List Ent} {id:List Nat} {e:Ent} (h:n9 es id=some e):e.id=id:=(a1Q _ _).1 (S9 h).2
theorem a6m {es:List Ent} {id:List Nat} (h:C4 id es=true):∃ e,n9 es id=some e:=by rw[a4A]at h;exact Option.isSome_iff_exists.1 h
theorem a5Z {es:List Ent} {id:List Nat} (h:C4 id es=false):n9 es id=none:=by rw[a4A]at h;exact Option.not_isSome_iff_eq_none.1 (by rw[h]; decide)
theorem a7y:Z3≠s7:=by decide
theorem a7q:a3X≠s7:=by decide
theorem d3o:s7≠Z3:=by decide
theorem d1V:a3X≠Z3:=by decide
section
variable {al:List Nat} {y0 y1:AV} {D:List AV} {k:Int} (hk:k=1∨k=2∨k=3) {es:List Ent} (hs:j0 es) (hl:es.length≤13) (hg:∀ e∈es,GJ e)
include hk hs hl in
theorem d8Q:Out false 0 es al y0 y1 D k (U8 es).isSome ((U8 es).getD es):=by
 cases h:C4 [97] es with
 | true =>obtain⟨e,i⟩:=a6m h;rw[show U8 es=none by unfold U8; rw[h]; rfl];exact e8Z (t:=e.t) (K:=e.ks.map b9) (L:=e.ls.map Val.row) hk hs hl (cvt (e2s (al:=al) (y0:=y0) (y1:=y1) (D:=D) hk hs hl (a0l i) i) (by kernel_rfl))
 | false =>rw[show U8 es=some (i8 es E5)by unfold U8; rw[h]; rfl];exact e4H hk hs hl (a5Z h)
include hk hs hl in
theorem d75:Out false 1 es al y0 y1 D k (T3 es).isSome ((T3 es).getD es):=by
 cases h:C4 [98] es with
 | true =>obtain⟨e,i⟩:=a6m h;rw[show T3 es=none by unfold T3; rw[h]; rfl];exact e62 (t:=e.t) (K:=e.ks.map b9) (L:=e.ls.map Val.row) hk hs hl (cvt (e8D (al:=al) (y0:=y0) (y1:=y1) (D:=D) hk hs hl (a0l i) i) (by kernel_rfl))
 | false =>rw[show T3 es=some (i8 es E0)by unfold T3; rw[h]; rfl];exact e2K hk hs hl (a5Z h)
include hk hs hl hg in
theorem d8B:Out false 2 es al y0 y1 D k (I1 es).isSome ((I1 es).getD es):=by
 cases h:n9 es [99]with
 | none =>rw[show I1 es=none by unfold I1; rw[h]];exact c1S (t:=[]) (K:=[]) (L:=[]) hk hs hl (cvt (e4l (al:=al) (y0:=y0) (y1:=y1) (D:=D) hk hs hl h) (by kernel_rfl))
 | some e =>
  have i:=hg e (S9 h).1;have hid:=a0l h;rcases i.good.fam with⟨ht,u⟩|ht|ht
  · obtain⟨t,id,ks,ls⟩:=e;dsimp only at hid ht u;subst hid; subst ht;obtain⟨R,l⟩:=b73 ls;rw[← i.good.kl]at l;rw[show I1 es=some (i8 es (r8 ks ls))by unfold I1; rw[h]; exact if_pos rfl];exact e5K hk hs hl l u h
  · have hn:¬ e.t=s7:=fun j=>a7y (ht.symm.trans j)
    rw[show I1 es=none by unfold I1; rw[h]; exact if_neg hn];exact c1S (t:=[]) (K:=e.ks.map b9) (L:=e.ls.map Val.row) hk hs hl (cvt (e5Z (al:=al) (y0:=y0) (y1:=y1) (D:=D) hk hs hl hid ht h) (by kernel_rfl))
  · have hn:¬ e.t=s7:=fun j=>a7q (ht.symm.trans j)
    rw[show I1 es=none by unfold I1; rw[h]; exact if_neg hn];exact c1S (t:=[]) (K:=e.ks.map b9) (L:=e.ls.map Val.row) hk hs hl (cvt (e73 (al:=al) (y0:=y0) (y1:=y1) (D:=D) hk hs hl hid ht h) (by kernel_rfl))
include hk hs hl hg in
theorem d8t:Out false 3 es al y0 y1 D k (F7 es).isSome ((F7 es).getD es):=by
 cases h:n9 es [97]with
 | none =>rw[show F7 es=none by unfold F7; rw[h]];exact c1R (t:=[]) (K:=[]) (L:=[]) hk hs hl (cvt (e4h (al:=al) (y0:=y0) (y1:=y1) (D:=D) hk hs hl h) (by kernel_rfl))
 | some e =>
  have j:=hg e (S9 h).1;have hid:=a0l h;rcases j.good.fam with⟨ht,x⟩|ht|ht
  · have l:=j.age ht;obtain⟨t,id,ks,ls⟩:=e;dsimp only at hid ht x;subst hid; subst ht;rcases l with⟨y,z,m,u,i,hm,h3⟩|h3
    · dsimp only at u i;subst u; subst i;rw[show F7 es=some (l8 es [97])by unfold F7; rw[h]; exact if_pos rfl];exact e28 hk hs hl hm h3 h
    · rw[show F7 es=some (l8 es [97])by unfold F7; rw[h]; exact if_pos rfl];exact e7x hk hs hl h3 h
  · have hn:¬ e.t=s7:=fun i=>a7y (ht.symm.trans i)
    rw[show F7 es=none by unfold F7; rw[h]; exact if_neg hn];exact c1R (t:=[]) (K:=e.ks.map b9) (L:=e.ls.map Val.row) hk hs hl (cvt (e3t (al:=al) (y0:=y0) (y1:=y1) (D:=D) hk hs hl hid ht h) (by kernel_rfl))
  · have hn:¬ e.t=s7:=fun i=>a7q (ht.symm.trans i)
    rw[show F7 es=none by unfold F7; rw[h]; exact if_neg hn];exact c1R (t:=[]) (K:=e.ks.map b9) (L:=e.ls.map Val.row) hk hs hl (cvt (e2i (al:=al) (y0:=y0) (y1:=y1) (D:=D) hk hs hl hid ht h) (by kernel_rfl))
include hk hs hl hg in
theorem e0C:Out false 4 es al y0 y1 D k (I2 es).isSome ((I2 es).getD es):=by
 cases h:n9 es [98]with
 | none =>rw[show I2 es=none by unfold I2; rw[h]];exact c0s (t:=[]) (K:=[]) (L:=[]) hk hs hl (cvt (e8z (al:=al) (y0:=y0) (y1:=y1) (D:=D) hk hs hl h) (by kernel_rfl))
 | some e =>
  have j:=hg e (S9 h).1;have hid:=a0l h;rcases j.good.fam with⟨ht,l⟩|ht|ht
  · have hn:¬ e.t=Z3:=fun i=>d3o (ht.symm.trans i)
    rw[show I2 es=none by unfold I2; rw[h]; exact if_neg hn];exact c0s (t:=[]) (K:=e.ks.map b9) (L:=e.ls.map Val.row) hk hs hl (cvt (e5v (al:=al) (y0:=y0) (y1:=y1) (D:=D) hk hs hl hid ht h) (by kernel_rfl))
  · obtain⟨t,id,ks,ls⟩:=e;dsimp only at hid ht;subst hid; subst ht;rw[show I2 es=some (l8 es [98])by unfold I2; rw[h]; exact if_pos rfl];exact e4D hk hs hl h
  · have hn:¬ e.t=Z3:=fun i=>d1V (ht.symm.trans i)
    rw[show I2 es=none by unfold I2; rw[h]; exact if_neg hn];exact c0s (t:=[]) (K:=e.ks.map b9) (L:=e.ls.map Val.row) hk hs hl (cvt (e50 (al:=al) (y0:=y0) (y1:=y1) (D:=D) hk hs hl hid ht h) (by kernel_rfl))
include hk hs hl hg in
theorem c1l {kd:Nat} (i:kd < 5):Out false kd es al y0 y1 D k (step kd es).isSome ((step kd es).getD es):=by
 match kd,i with
 | 0,_=>exact d8Q hk hs hl
 | 1,_=>exact d75 hk hs hl
 | 2,_=>exact d8B hk hs hl hg
 | 3,_=>exact d8t hk hs hl hg
 | 4,_=>exact e0C hk hs hl hg
include hk hs hl in
theorem e0R:Out true 0 es al y0 y1 D k (U8 es).isSome ((U8 es).getD es):=by
 cases h:C4 [97] es with
 | true =>obtain⟨e,i⟩:=a6m h;rw[show U8 es=none by unfold U8; rw[h]; rfl];exact e18 (t:=e.t) (K:=e.ks.map b9) (L:=e.ls.map Val.row) hk hs hl (cvt (e56 (al:=al) (y0:=y0) (y1:=y1) (D:=D) hk hs hl (a0l i) i) (by kernel_rfl))
 | false =>rw[show U8 es=some (i8 es E5)by unfold U8; rw[h]; rfl];exact e6C hk hs hl (a5Z h)
include hk hs hl in
theorem e1r:Out true 1 es al y0 y1 D k (T3 es).isSome ((T3 es).getD es):=by
 cases h:C4 [98] es with
 | true =>obtain⟨e,i⟩:=a6m h;rw[show T3 es=none by unfold T3; rw[h]; rfl];exact e2L (t:=e.t) (K:=e.ks.map b9) (L:=e.ls.map Val.row) hk hs hl (cvt (e6H (al:=al) (y0:=y0) (y1:=y1) (D:=D) hk hs hl (a0l i) i) (by kernel_rfl))
 | false =>rw[show T3 es=some (i8 es E0)by unfold T3; rw[h]; rfl];exact e85 hk hs hl (a5Z h)
include hk hs hl hg in
theorem e0m:Out true 2 es al y0 y1 D k (I1 es).isSome ((I1 es).getD es):=by
 cases h:n9 es [99]with
 | none =>rw[show I1 es=none by unfold I1; rw[h]];exact c04 (t:=[]) (K:=[]) (L:=[]) hk hs hl (cvt (e78 (al:=al) (y0:=y0) (y1:=y1) (D:=D) hk hs hl h) (by kernel_rfl))
 | some e =>
  have i:=hg e (S9 h).1;have hid:=a0l h;rcases i.good.fam with⟨ht,u⟩|ht|ht
  · obtain⟨t,id,ks,ls⟩:=e;dsimp only at hid ht u;subst hid; subst ht;obtain⟨R,l⟩:=b73 ls;rw[← i.good.kl]at l;rw[show I1 es=some (i8 es (r8 ks ls))by unfold I1; rw[h]; exact if_pos rfl];exact e2U hk hs hl l u h
  · have hn:¬ e.t=s7:=fun j=>a7y (ht.symm.trans j)
    rw[show I1 es=none by unfold I1; rw[h]; exact if_neg hn];exact c04 (t:=[]) (K:=e.ks.map b9) (L:=e.ls.map Val.row) hk hs hl (cvt (e5k (al:=al) (y0:=y0) (y1:=y1) (D:=D) hk hs hl hid ht h) (by kernel_rfl))
  · have hn:¬ e.t=s7:=fun j=>a7q (ht.symm.trans j)
    rw[show I1 es=none by unfold I1; rw[h]; exact if_neg hn];exact c04 (t:=[]) (K:=e.ks.map b9) (L:=e.ls.map Val.row) hk hs hl (cvt (e1L (al:=al) (y0:=y0) (y1:=y1) (D:=D) hk hs hl hid ht h) (by kernel_rfl))
include hk hs hl hg in
theorem d7T:Out true 3 es al y0 y1 D k (F7 es).isSome ((F7 es).getD es):=by
 cases h:n9 es [97]with
 | none =>rw[show F7 es=none by unfold F7; rw[h]];exact b9p (t:=[]) (K:=[]) (L:=[]) hk hs hl (cvt (e3f (al:=al) (y0:=y0) (y1:=y1) (D:=D) hk hs hl h) (by kernel_rfl))
 | some e =>
  have j:=hg e (S9 h).1;have hid:=a0l h;rcases j.good.fam with⟨ht,x⟩|ht|ht
  · have l:=j.age ht;obtain⟨t,id,ks,ls⟩:=e;dsimp only at hid ht x;subst hid; subst ht;rcases l with⟨y,z,m,u,i,hm,h3⟩|h3
    · dsimp only at u i;subst u; subst i;rw[show F7 es=some (l8 es [97])by unfold F7; rw[h]; exact if_pos rfl];exact e6p hk hs hl hm h3 h
    · rw[show F7 es=some (l8 es [97])by unfold F7; rw[h]; exact if_pos rfl];exact e9p hk hs hl h3 h
  · have hn:¬ e.t=s7:=fun i=>a7y (ht.symm.trans i)
    rw[show F7 es=none by unfold F7; rw[h]; exact if_neg hn];exact b9p (t:=[]) (K:=e.ks.map b9) (L:=e.ls.map Val.row) hk hs hl (cvt (e2G (al:=al) (y0:=y0) (y1:=y1) (D:=D) hk hs hl hid ht h) (by kernel_rfl))
  · have hn:¬ e.t=s7:=fun i=>a7q (ht.symm.trans i)
    rw[show F7 es=none by unfold F7; rw[h]; exact if_neg hn];exact b9p (t:=[]) (K:=e.ks.map b9) (L:=e.ls.map Val.row) hk hs hl (cvt (e5n (al:=al) (y0:=y0) (y1:=y1) (D:=D) hk hs hl hid ht h) (by kernel_rfl))
include hk hs hl hg in
theorem d8y:Out true 4 es al y0 y1 D k (I2 es).isSome ((I2 es).getD es):=by
 cases h:n9 es [98]with
 | none =>rw[show I2 es=none by unfold I2; rw[h]];exact c0Z (t:=[]) (K:=[]) (L:=[]) hk hs hl (cvt (e61 (al:=al) (y0:=y0) (y1:=y1) (D:=D) hk hs hl h) (by kernel_rfl))
 | some e =>
  have j:=hg e (S9 h).1;have hid:=a0l h;rcases j.good.fam with⟨ht,l⟩|ht|ht
  · have hn:¬ e.t=Z3:=fun i=>d3o (ht.symm.trans i)
    rw[show I2 es=none by unfold I2; rw[h]; exact if_neg hn];exact c0Z (t:=[]) (K:=e.ks.map b9) (L:=e.ls.map Val.row) hk hs hl (cvt (e8Q (al:=al) (y0:=y0) (y1:=y1) (D:=D) hk hs hl hid ht h) (by kernel_rfl))
  · obtain⟨t,id,ks,ls⟩:=e;dsimp only at hid ht;subst hid; subst ht;rw[show I2 es=some (l8 es [98])by unfold I2; rw[h]; exact if_pos rfl];exact e47 hk hs hl h
  · have hn:¬ e.t=Z3:=fun i=>d1V (ht.symm.trans i)
    rw[show I2 es=none by unfold I2; rw[h]; exact if_neg hn];exact c0Z (t:=[]) (K:=e.ks.map b9) (L:=e.ls.map Val.row) hk hs hl (cvt (e42 (al:=al) (y0:=y0) (y1:=y1) (D:=D) hk hs hl hid ht h) (by kernel_rfl))
include hk hs hl hg in
theorem b94 {kd:Nat} (i:kd < 5):Out true kd es al y0 y1 D k (step kd es).isSome ((step kd es).getD es):=by
 match kd,i with
 | 0,_=>exact e0R hk hs hl
 | 1,_=>exact e1r hk hs hl
 | 2,_=>exact e0m hk hs hl hg
 | 3,_=>exact d7T hk hs hl hg
 | 4,_=>exact d8y hk hs hl hg
end
theorem b9a:GJ E5:=⟨⟨rfl,.inr (.inr rfl),by decide,by decide,fun v i=>by rw[List.mem_singleton.1 i];exact⟨3,1,[],[],rfl,⟨⟨by decide,Nat.zero_le _⟩,fun _=>rfl⟩,by decide,fun u hu=>by cases hu⟩,fun h=>absurd h a7q⟩,fun h=>absurd h a7q⟩
theorem a7T (k n:Int) (s:List Nat) (hk:k≠6) (hs:s.length≤TB):Small (.mk k n s [] []):=⟨k,n,s,[],rfl,⟨⟨hk,hs⟩,fun _=>rfl⟩,Nat.zero_le _,fun u hu=>by cases hu⟩
theorem b9V:GJ E0:=⟨⟨rfl,.inr (.inl rfl),by decide,by decide,fun v hv=>by
 rcases List.mem_cons.1 hv with rfl|hv
 · exact a7T _ _ _ (by decide) (by decide)
 rcases List.mem_cons.1 hv with rfl|hv
 · exact a7T _ _ _ (by decide) (by decide)
 rw[List.mem_singleton.1 hv];exact a7T _ _ _ (by decide) (by decide),fun h=>absurd h a7y⟩,fun h=>absurd h a7y⟩
theorem a2v {α:Type} (k:List Nat) (v:α):∀ (ks:List (List Nat)) (ls:List α),ks.length=ls.length→(J1 k v ks ls).1.length=(J1 k v ks ls).2.length
 | [],[],_=>rfl
 | x::xs,y::ys,h=>by
  have i:xs.length=ys.length:=by simpa using h
  have j:=a2v k v xs ys i;rw[J1];cases m9 x k<;>cases eqN x k<;>simp[j,i]
 | [],_::_,h=>by cases h
 | _::_,[],h=>by cases h
theorem a7i {α:Type} (k:List Nat) (v:α):∀ (ks:List (List Nat)) (ls:List α),ks.length=ls.length→∀ u∈(J1 k v ks ls).2,u=v∨u∈ls
 | [],[],_,u,hu=>.inl (by simpa[J1]using hu)
 | x::xs,y::ys,h,u,hu=>by
  have i:xs.length=ys.length:=by simpa using h
  have t:=a7i k v xs ys i u;rw[J1]at hu;cases j:m9 x k<;>cases l:eqN x k<;>simp only[j,l,cond_true,cond_false,List.mem_cons]at hu ⊢<;>rcases hu with hu|hu<;>first|exact .inl hu|exact .inr (.inl hu)|skip
  all_goals first|(rcases hu with hu|hu; exact .inr (.inl hu); exact .inr (.inr hu))|exact .inr (.inr hu)|(rcases t hu with hu|hu; exact .inl hu; exact .inr (.inr hu))
 | [],_::_,h,_,_=>by cases h
 | _::_,[],h,_,_=>by cases h
theorem a4E {α β:Type} (k:List Nat) (v:α) (w:β):∀ (ks:List (List Nat)) (ls:List α) (ms:List β),ks.length=ls.length→ks.length=ms.length→(J1 k v ks ls).1=(J1 k w ks ms).1
 | [],[],[],_,_=>rfl
 | x::xs,y::ys,z::zs,h,h2=>by have i:=a4E k v w xs ys zs (by simpa using h) (by simpa using h2);rw[J1,J1];cases m9 x k<;>cases eqN x k<;>simp[i]
 | [],_::_,_,h,_=>by cases h
 | [],[],_::_,_,h=>by cases h
 | _::_,[],_,h,_=>by cases h
 | _::_,_::_,[],_,h=>by cases h
def us (ks:List (List Nat)):List Unit:=ks.map fun _=>()
theorem b7n (ks:List (List Nat)):ks.length=(us ks).length:=by simp[us]
def upK (ks:List (List Nat)):List (List Nat):=(up2 () () ks (us ks)).1
def d4S (ks:List (List Nat)):Bool:=(match upK ks with|a::r=>eqN a m5 && (r.isSublist personK.tail)|[]=>false) && (match (up1 () ks (us ks)).1 with|a::_=>eqN a m5|[]=>false)
theorem c5q:(M3 personK).all d4S=true:=by kernel_rfl
theorem c5w {ks:List (List Nat)} {ls:List Val} (h:ks.length=ls.length):(r8 ks ls).ks=upK ks:=by have i:=a4E m5 (vI 5) () ks ls (us ks) h (b7n ks);show(J1 a1J vF _ _).1=(J1 a1J () _ _).1;unfold up1;rw[i];exact a4E a1J vF () _ _ _ (by rw[← i]; exact a2v _ _ _ _ h) (a2v _ _ _ _ (b7n ks))
theorem c2g {α:Type} (a:α):∀ {ks:List (List Nat)} {ls:List α},ks.length=ls.length→(∀ x∈ks,m9 x m5=false)→∃ r s,up1 a ks ls=(m5::r,a::s)∧r.length=s.length
 | [],[],_,_=>⟨[],[],rfl,rfl⟩
 | x::xs,y::ys,h,hl=>by
  have i:xs.length=ys.length:=by simpa using h
  have j:=hl x (List.mem_cons_self ..);unfold up1;rw[J1,j];cases eqN x m5
  · exact⟨x::xs,y::ys,rfl,h⟩
  · exact⟨xs,ys,rfl,i⟩
 | [],_::_,h,_=>by cases h
 | _::_,[],h,_=>by cases h
theorem b7k:∀ x∈personK,m9 x m5=false:=by decide
theorem b93 {ks:List (List Nat)} {ls:List Val} (h:ks.length=ls.length) (i:ks.Sublist personK):∃ r s,(r8 ks ls).ks=m5::r∧(r8 ks ls).ls=vI 5::s∧r.length=s.length:=by
 obtain⟨r,s,e,hl⟩:=c2g (vI 5) h (fun x j=>b7k x (i.subset j));refine⟨(J1 a1J vF r s).1,(J1 a1J vF r s).2,?_,?_,a2v _ _ _ _ hl⟩
 · show(J1 a1J vF _ _).1=_;rw[e]; rfl
 · show(J1 a1J vF _ _).2=_;rw[e]; rfl
theorem c6g {ks:List (List Nat)} {ls:List Val} (h:ks.length=ls.length) (j:ks.Sublist personK) {r:List (List Nat)} (e:(r8 ks ls).ks=m5::r):r.Sublist personK.tail:=by have i:=List.all_eq_true.1 c5q ks (J5 j);unfold d4S at i;rw[← c5w h,e,Bool.and_eq_true,Bool.and_eq_true]at i;exact List.isSublist_iff_sublist.1 i.1.2
theorem c0m {e:Ent} (h:GJ e) (x:e.t=s7):GJ (r8 e.ks e.ls):=by
 have i:=h.good.kl;have l:e.ks.Sublist personK:=by
  rcases h.good.fam with⟨_,l⟩|h2|h2
  · exact l
  · exact absurd (h2.symm.trans x) a7y
  · exact absurd (h2.symm.trans x) a7q
 obtain⟨r,s,j,e2,hl⟩:=b93 i l;have hs:=c6g i l j;have hp:(r8 e.ks e.ls).ks.Sublist personK:=by rw[j]; exact hs.cons_cons m5
 refine⟨⟨by rw[j,e2]; simp[hl],.inl ⟨rfl,hp⟩,(show [99]∈idsL by decide),hp.length_le,fun v z=>?_,fun _ p hp y=>?_⟩,fun _=>.inl ⟨r,s,5,j,e2,⟨by decide,by decide⟩,hs⟩⟩
 rotate_left
 · rw[j,e2,List.zip_cons_cons]at hp;rcases List.mem_cons.1 hp with rfl|hp
   · exact⟨5,rfl,by decide,by decide⟩
   · have h2:=hs.subset (List.of_mem_zip hp).1;rw[y]at h2;exact absurd h2 (by decide)
 have hm:=a7i a1J vF _ _ (a2v m5 (vI 5) _ _ i) v z;rcases hm with rfl|hm
 · exact⟨5,0,[],[.mk 8 0 [97] [] []],rfl,⟨⟨by decide,Nat.zero_le _⟩,fun h=>absurd rfl h⟩,by decide,fun u hu=>⟨8,0,[97],List.mem_singleton.1 hu,by decide,by decide⟩⟩
 rcases a7i m5 (vI 5) _ _ i v hm with rfl|hm
 · exact a7T _ _ _ (by decide) (Nat.zero_le _)
 · exact h.good.sm v hm
theorem b97 {es:List Ent} {x y:Ent} (h:y∈i8 es x):y=x∨y∈es:=by
 unfold i8 at h;split at h
 · rcases List.mem_or_eq_of_mem_set h with h|h
   · exact .inr h
   · exact .inl h
 · rcases List.mem_append.1 h with h|h
   · exact .inr (List.mem_of_mem_take h)
   · rcases List.mem_cons.1 h with h|h
     · exact .inl h
     · exact .inr (List.mem_of_mem_drop h)
theorem c33 (es:List Ent) (x:Ent):(i8 es x).length≤es.length+1:=by
 cases h:C4 x.id es with
 | true=>rw[a1m h]; omega
 | false=>rw[Q6 h]; omega
theorem a9f {kd:Nat} {es i:List Ent} (hs:j0 es) (hg:∀ e∈es,GJ e) (h:step kd es=some i):j0 i∧i.length≤es.length+1∧∀ e∈i,GJ e:=by
 have W:∀ x:Ent,GJ x→j0 (i8 es x)∧(i8 es x).length≤es.length+1∧∀ e∈i8 es x,GJ e:=fun x l=>⟨L0 hs _,c33 es x,fun e he=>by
  rcases b97 he with rfl|he
  · exact l
  · exact hg e he⟩
 have O:∀ id:List Nat,j0 (l8 es id)∧(l8 es id).length≤es.length+1∧∀ e∈l8 es id,GJ e:=fun id=>by obtain⟨a,b,c,_⟩:=c3I hs id;exact⟨a,by omega,fun e he=>hg e (c e he)⟩
 match kd with
 | 0 =>have h:U8 es=some i:=h;unfold U8 at h;split at h<;>cases h;exact W _ b9a
 | 1 =>have h:T3 es=some i:=h;unfold T3 at h;split at h<;>cases h;exact W _ b9V
 | 2 =>
  have h:I1 es=some i:=h;unfold I1 at h;split at h
  · rename_i e he;split at h<;>cases h;rename_i j;exact W _ (c0m (hg e (S9 he).1) j)
  · cases h
 | 3 =>
  have h:F7 es=some i:=h;unfold F7 at h;split at h
  · split at h<;>cases h;exact O _
  · cases h
 | _+4 =>
  have h:I2 es=some i:=h;unfold I2 at h;split at h
  · split at h<;>cases h;exact O _
  · cases h
end Go.Cb.CodeA
namespace Go.Cb.CodeA
open Go Go.Cb Go.Cb.G
theorem b1L (T:St):T_b0.map (Obj.rn (RN.rho T 31 (qm [])))=T_b0:=by kernel_rfl
theorem c6n {f:Nat} {as:List AV} {r:AV} (h:Ev e7 f as T_b0 r T_b0) {T:St} (B:∀ a,a < 31→T[a]?=T_b0[a]?) (x:as.map (AV.rn (RN.rho T 31 (qm [])))=as) (E:r.rn (RN.rho T 31 (qm []))=r):Ev e7 f as T r T:=by
 have l31:31≤T.length:=by have u:=B 30 (by decide);rw[show T_b0[30]?=some (T_b0[30]'(by rw[b0_len]; decide))from List.getElem?_eq_getElem _]at u;have:=q9 u;omega
 have hi:∀ i j,i < 31→j < 31→qm [] i=qm [] j→i=j:=fun i j t C e=>by rw[E6 t,E6 C]at e; exact e
 have hl:∀ i,i < 31→qm [] i < T.length:=fun i t=>by rw[E6 t]; omega
 obtain⟨t,-⟩:=RN.ev_rn (R:=RN.frame hi hl) a4f (show 31≤T_b0.length by rw[b0_len]; decide) h;have e:RN.mst T 31 (qm []) T_b0=T:=by
  apply List.ext_getElem?;intro j;by_cases y:j < 31
  · have:=RN.mst_get (T:=T) hi hl (st:=T_b0) (by rw[b0_len]; decide) j;rw[show RN.rho T 31 (qm []) j=j by unfold RN.rho; rw[if_pos y,E6 y]]at this;rw[this,B j y];have:=congrArg (fun l=>l[j]?) (b1L T);rw[List.getElem?_map]at this;exact this
  · by_cases z:j < T.length
    · exact RN.mst_other z fun a x e=>by rw[E6 x]at e; omega
    · rw[List.getElem?_eq_none (by rw[RN.mst_len,b0_len]; omega),List.getElem?_eq_none (by omega)]
 have t:Ev e7 f (as.map (AV.rn (RN.rho T 31 (qm [])))) (RN.mst T 31 (qm []) T_b0) (r.rn (RN.rho T 31 (qm []))) (RN.mst T 31 (qm []) T_b0):=t;rw[x,E,e]at t;exact t
def a8n:List Nat:=[77,117,116,97,116,105,111,110]
def nmF (kd:Nat):List Nat:=match (sel kd []).getD 2 .undef with|.str s=>s|_=>[]
theorem e0f (al:List Nat):∀ kd,kd < 5→(sel kd al).drop 2=.str (nmF kd)::(sel kd al).drop 3
 | 0,_=>by kernel_rfl
 | 1,_=>by kernel_rfl
 | 2,_=>by kernel_rfl
 | 3,_=>by kernel_rfl
 | 4,_=>by kernel_rfl
theorem e46:∀ kd,kd < 5→Ev e7 44 [.ptr 2 0,.str a8n,.str (nmF kd)] T_b0 (.tuple [fD kd,.bool true]) T_b0
 | 0,_=>ev_ofG (k:=400) (by kernel_rfl)
 | 1,_=>ev_ofG (k:=400) (by kernel_rfl)
 | 2,_=>ev_ofG (k:=400) (by kernel_rfl)
 | 3,_=>ev_ofG (k:=400) (by kernel_rfl)
 | 4,_=>ev_ofG (k:=400) (by kernel_rfl)
theorem d7k {T:St} (i:∀ a,a < 31→T[a]?=T_b0[a]?) {kd:Nat} (hk:kd < 5):Ev e7 44 [.ptr 2 0,.str a8n,.str (nmF kd)] T (.tuple [fD kd,.bool true]) T :=
 c6n (e46 kd hk) i (by kernel_rfl) (by show AV.tuple (F8 _ [fD kd,.bool true])=_; rw[F8,F8,F8,b6p]; rfl)
end Go.Cb.CodeA
namespace Go.Cb.CodeA
open Go Go.Cb
attribute [local congr] F2 H7 J0 I8 G6 G7 M4 M5 V.runR_congr
structure Gp where
 kd:Nat
 al:List Nat
 s:Nat
def a0J (gs:List Gp):List AV:=(gs.map fun g=>[AV.str g.al,AV.sl g.s 0 1 7]).flatten
def D4:AV:=.agg [.int .u8 6,.int .i64 0,.str [],.list false [],.list false []]
def stG (es:List Ent) (bad:Bool) (g:Gp):List Ent×Bool:=match step g.kd es with|some e2=>(e2,bad)|none=>(es,true)
def a1d (i:List Ent):List Gp→List Ent×Bool
 | []=>(i,false)
 | g::gs=>let r:=a1d i gs; stG r.1 r.2 g
structure Sep (gs:List Gp) (p ou gg qa o0:Nat):Prop where
 d:p≠ou∧p≠gg∧p≠qa∧p≠o0∧ou≠gg∧ou≠qa∧ou≠o0∧gg≠qa∧gg≠o0∧qa≠o0
 l:31≤p∧31≤ou∧31≤gg∧31≤qa∧31≤o0
 s:∀ g∈gs,31≤g.s∧g.s≠p∧g.s≠ou∧g.s≠gg∧g.s≠qa∧g.s≠o0
 k:∀ g∈gs,g.kd < 5
structure LI (gs:List Gp) (D:List AV) (es0:List Ent) (p ou gg qa o0:Nat) (i:Nat) (T:St) (es:List Ent) (o:Nat) (pr:AV) (k:Int) (Ks Ls:List (List AV)) (bad:Bool):Prop where
 base:∀ a,a < 31→T[a]?=T_b0[a]?
 ep:T[p]?=some (.cells (rC (.sl qa 0 1 4) (.sl o 0 es.length 4) pr k))
 eo:T[o]?=some (.cells (l6 es))
 eq:T[qa]?=some (.cells D)
 eu:T[ou]?=some (.cells [.int .u8 6,.int .i64 0,.str [],.list true Ks,.list true Ls])
 eg:T[gg]?=some (.cells (a0J gs))
 ess:∀ g∈gs,T[g.s]?=some (.cells (sel g.kd g.al))
 e0:T[o0]?=some (.cells (l6 es0))
 dst:31≤o∧o≠p∧o≠ou∧o≠gg∧o≠qa∧∀ g∈gs,o≠g.s
 prob:bif bad then ∃ pp nn,pr=.sl pp 0 (nn+1) 2∧nn≤1∧(i=1→nn=0∧(∃ (al:List Nat) (c:Int),T[pp]?=some (.cells [.list false [[.str al]],.int .i64 c]))∧31≤pp∧pp≠o∧pp≠p∧pp≠ou∧pp≠gg∧pp≠qa∧pp≠o0∧∀ g∈gs,pp≠g.s)else pr=.nils
 kk:0≤k∧k≤2*i
 rk:s5 1 Ks=true∧Ks.length=i
 rl:s5 5 Ls=true∧Ls.length=i
 so:es=(a1d es0 (gs.take i).reverse).1∧bad=(a1d es0 (gs.take i).reverse).2
 gd:j0 es∧es.length≤es0.length+i∧∀ e∈es,GJ e
theorem c59 (kd:Nat):∃ u l1 z l2 i j x y B l t,fD kd=.agg [.str u,.list false l1,.str z,.list false l2,.bool i,.bool j,.int .u8 x,.int .i64 y,.str B,.list false l,.list false t]:=by
 match kd with
 | 0=>exact⟨_,_,_,_,_,_,_,_,_,_,_,rfl⟩
 | 1=>exact⟨_,_,_,_,_,_,_,_,_,_,_,rfl⟩
 | 2=>exact⟨_,_,_,_,_,_,_,_,_,_,_,rfl⟩
 | 3=>exact⟨_,_,_,_,_,_,_,_,_,_,_,rfl⟩
 | _+4=>exact⟨_,_,_,_,_,_,_,_,_,_,_,rfl⟩
theorem b68 {gs:List Gp} {i:Nat} (h:i < gs.length):(2≤((a0J gs).drop (i*2)).length)=True∧(((a0J gs).drop (i*2)).take 2)=[.str gs[i].al,.sl gs[i].s 0 1 7]:=by
 have e:∀ (gs:List Gp) (i:Nat) (h:i < gs.length),(a0J gs).drop (i*2)=AV.str gs[i].al::AV.sl gs[i].s 0 1 7::(a0J gs).drop ((i+1)*2):=by
  intro gs;induction gs with
  | nil=>intro i h; cases h
  | cons g gs j =>
   intro i h;have c:a0J (g::gs)=AV.str g.al::AV.sl g.s 0 1 7::a0J gs:=rfl;cases i with
   | zero=>rw[c]; rfl
   | succ i =>rw[c,show(i+1)*2=i*2+1+1 by omega,List.drop_succ_cons,List.drop_succ_cons,j i (by simpa using h),show(i+1+1)*2=(i+1)*2+1+1 by omega,List.drop_succ_cons,List.drop_succ_cons];rfl
 rw[e gs i h];exact⟨by simp,rfl⟩
end Go.Cb.CodeA
namespace Go.Cb.CodeA
open Go Go.Cb
theorem a2U {T:St} {i j:Nat} (x:Cb.Obj) (h:j≠i):(T.set i x)[j]?=T[j]?:=List.getElem?_set_ne (fun e=>h e.symm)
theorem a7a {T:St} {i:Nat} {y:Cb.Obj} (x:Cb.Obj) (h:T[i]?=some y):(T.set i x)[i]?=some x:=List.getElem?_set_self (q9 h)
theorem LI.field {gs:List Gp} {D:List AV} {M es:List Ent} {p O gg L o0 i o:Nat} {T:St} {pr:AV} {k:Int} {Ks Ls:List (List AV)} {bad:Bool} (t:LI gs D M p O gg L o0 i T es o pr k Ks Ls bad) (hs:Sep gs p O gg L o0) (c1:∀ ρ:Nat→Nat,D.map (AV.rn ρ)=D) (g6:M.length+gs.length≤14) {g:Gp} (b5:i < gs.length) (hg:gs[i]=g) (hn:gs.length≤2) :
 ∃ (a:AV) (I:St) (b3:List Ent) (o2:Nat) (pr2:AV) (k2:Int) (b2:Bool),Ev e7 45 [.ptr p 0,fD g.kd,.agg [.str g.al,.sl g.s 0 1 7]] (T.set p (.cells (rC (.sl L 0 1 4) (.sl o 0 es.length 4) pr (k+1)))) a I∧I[p]?=some (.cells (rC (.sl L 0 1 4) (.sl o2 0 b3.length 4) pr2 k2))∧I[O]?=some (.cells [.int .u8 6,.int .i64 0,.str [],.list true Ks,.list true Ls])∧0≤k2∧k2≤4 ∧
  ∃ x y z ks vs,a=.agg [.int .u8 x,.int .i64 y,.str z,.list false ks,.list false vs]∧LI gs D M p O gg L o0 (i+1) (I.set O (.cells [.int .u8 6,.int .i64 0,.str [],.list true (Ks++[[.str g.al]]),.list true (Ls++[[.int .u8 x,.int .i64 y,.str z,.list false ks,.list false vs]])])) b3 o2 pr2 k2 (Ks++[[.str g.al]]) (Ls++[[.int .u8 x,.int .i64 y,.str z,.list false ks,.list false vs]]) b2:=by
 have J:g∈gs:=hg ▸ List.getElem_mem b5;obtain⟨c3,f1,Y,f2,f3,c6,f4,f5,g7,c4⟩:=hs.d;obtain⟨c7,f6,f7,c8,f8⟩:=hs.l;obtain⟨d0,Z,g1,g3,d7,g4⟩:=hs.s g J;obtain⟨d1,d2,d3,d4,d5,d6⟩:=t.dst;have b7:=hs.k g J;have hk:k+1=1∨k+1=2∨k+1=3:=by have:=t.kk; omega
 obtain⟨V,g5,W⟩:=t.gd;have a0:es.length≤13:=by omega
 -- the small store's objects
 have key:∃ (a:AV) (I:St) (o2 N u:Nat) (pr2:AV) (k2:Int) (y0 y1:AV),Did bad (T.set p (.cells (rC (.sl L 0 1 4) (.sl o 0 es.length 4) pr (k+1)))) o p g.s L N g.kd g.al es y0 y1 D (k+1) (step g.kd es).isSome ((step g.kd es).getD es) a I o2 u pr2 k2∧(bad=true→pr=.sl N 0 1 2∧i=1∧N≠O∧N≠gg∧N≠o0∧∀ g∈gs,N≠g.s):=by
  have hb:∀ a,a < 31→(T.set p (.cells (rC (.sl L 0 1 4) (.sl o 0 es.length 4) pr (k+1))))[a]?=T_b0[a]?:=fun a ha=>by rw[a2U _ (by omega)]; exact t.base a ha
  cases bad with
  | false =>
   have e3:pr=.nils:=t.prob;subst e3;have hA:At false (T.set p (.cells (rC (.sl L 0 1 4) (.sl o 0 es.length 4) .nils (k+1)))) o p g.s L 0 g.kd g.al es .undef .undef D (k+1) :=
    ⟨hb,by rw[a2U _ d2]; exact t.eo,a7a _ t.ep,by rw[a2U _ Z]; exact t.ess g J,by rw[a2U _ (Ne.symm Y)]; exact t.eq,(fun h=>by cases h),⟨d1,c7,d0,c8,d2,d6 g J,d5,Ne.symm Z,Y,d7⟩,(fun h=>by cases h),c1,fun ρ=>⟨rfl,rfl⟩⟩
   obtain⟨a,I,o2,u,pr2,k2,G⟩:=b8O hA (c1l hk V a0 W b7);exact⟨a,I,o2,0,u,pr2,k2,_,_,G,(fun h=>by cases h)⟩
  | true =>
   have b4:i=1:=by
    have h0:i≠0:=fun e=>by have:=t.so.2;rw[e]at this;cases this
    omega
   obtain⟨N,nn,rfl,-,hp⟩:=t.prob;obtain⟨rfl,⟨d8,c,e1⟩,p31,n1,n2,n3,n4,n5,n6,n7⟩:=hp b4;have hA:At true (T.set p (.cells (rC (.sl L 0 1 4) (.sl o 0 es.length 4) (.sl N 0 1 2) (k+1)))) o p g.s L N g.kd g.al es (.list false [[.str d8]]) (.int .i64 c) D (k+1) :=
    ⟨hb,by rw[a2U _ d2]; exact t.eo,a7a _ t.ep,by rw[a2U _ Z]; exact t.ess g J,by rw[a2U _ (Ne.symm Y)]; exact t.eq,fun _=>by rw[a2U _ n2]; exact e1,⟨d1,c7,d0,c8,d2,d6 g J,d5,Ne.symm Z,Y,d7⟩,fun _=>⟨p31,n1,n2,n7 g J,n5⟩,c1,fun ρ=>⟨rfl,rfl⟩⟩
   obtain⟨a,I,o2,u,pr2,k2,G⟩:=b7B hA (b94 hk V a0 W b7);exact⟨a,I,o2,N,u,pr2,k2,_,_,G,fun _=>⟨rfl,b4,n3,n4,n6,n7⟩⟩
 obtain⟨a,I,o2,N,u,pr2,k2,y0,y1,G,E⟩:=key;have S:(T.set p (.cells (rC (.sl L 0 1 4) (.sl o 0 es.length 4) pr (k+1)))).length=T.length:=List.length_set;have b0:=q9 t.eu;have c2:=q9 t.eg;have e5:=q9 t.e0;have e6:=q9 t.eq;have f0:=q9 t.ep;have b1:∀ g∈gs,g.s < T.length:=fun g h=>q9 (t.ess g h)
 have other:∀ j,31≤j→j < T.length→j≠o→j≠p→j≠g.s→j≠L→(bad=true→j≠N)→I[j]?=T[j]?:=fun j X h2 n1 n2 n3 n4 n5=>by rw[G.other j X (by rw[S]; exact h2) n1 n2 n3 n4 n5,a2U _ n2]
 have c0:I[O]?=some (.cells [.int .u8 6,.int .i64 0,.str [],.list true Ks,.list true Ls]):=by rw[other O f6 b0 (Ne.symm d3) (Ne.symm c3) (Ne.symm g1) c6 (fun h=>Ne.symm (E h).2.2.1)];exact t.eu
 have b8:o2=o∨T.length≤o2:=by rw[← S]; exact G.o2
 have F:∀ j,j < T.length→j≠o→o2≠j:=fun j X h2 e=>by rcases b8 with h|h<;>omega
 obtain⟨x,y,z,ks,vs,ha⟩:=G.row
 -- what came out
 obtain⟨f9,g0⟩:=t.so;have b6:0≤k2∧k2≤2*(i+1:Nat):=by
  have:=t.kk;have C:=G.res;cases U:(step g.kd es).isSome<;>rw[U]at C
  · have:k2=k+1:=C.1;omega
  · have:k2=k+1+1:=C.1;omega
 have e4:a1d M (gs.take (i+1)).reverse=stG es bad g:=by rw[List.take_add_one,List.getElem?_eq_getElem b5,hg];show a1d M (gs.take i++[g]).reverse=_;rw[List.reverse_append];show stG (a1d M (gs.take i).reverse).1 (a1d M (gs.take i).reverse).2 g=_;rw[← f9,← g0]
 refine⟨a,I,(step g.kd es).getD es,o2,pr2,k2,bad || !(step g.kd es).isSome,G.ev,G.ep,c0,b6.1,by omega,x,y,z,ks,vs,ha,?_⟩;have st:∀ j,j≠O→(I.set O (.cells [.int .u8 6,.int .i64 0,.str [],.list true (Ks++[[.str g.al]]),.list true (Ls++[[.int .u8 x,.int .i64 y,.str z,.list false ks,.list false vs]])]))[j]?=I[j]?:=fun j h=>a2U _ h
 refine⟨fun j hj=>by rw[st j (by omega)]; exact G.base j hj,by rw[st p c3]; exact G.ep,by rw[st o2 (F O b0 (Ne.symm d3))]; exact G.e2,by rw[st L (Ne.symm c6)]; exact G.eq,a7a _ c0,?_,?_,?_,?_,?_,b6,?_,?_,?_,?_⟩
 · rw[st gg (Ne.symm f3),other gg f7 c2 (Ne.symm d4) (Ne.symm f1) (Ne.symm g3) f5 (fun h=>Ne.symm (E h).2.2.2.1)];exact t.eg
 · intro g' B;obtain⟨t1,t2,t3,t4,t5,t6⟩:=hs.s g' B;rw[st g'.s t3];by_cases e:g'.s=g.s
   · have X:=t.ess g' B;have h2:=t.ess g J;rw[e,h2]at X;rw[e,G.ese];exact X
   · rw[other g'.s t1 (b1 g' B) (Ne.symm (d6 g' B)) t2 e t5 (fun h=>Ne.symm ((E h).2.2.2.2.2 g' B))];exact t.ess g' B
 · rw[st o0 (Ne.symm f4)];by_cases e:o0=o
   · have X:=t.e0;rw[e]at X ⊢;rw[t.eo]at X;rw[G.eo];exact X
   · rw[other o0 f8 e5 e (Ne.symm f2) (Ne.symm g4) (Ne.symm c4) (fun h=>Ne.symm (E h).2.2.2.2.1)];exact t.e0
 · refine⟨?_,?_,F O b0 (Ne.symm d3),F gg c2 (Ne.symm d4),F L e6 (Ne.symm d5),fun g' B=>F _ (b1 g' B) (Ne.symm (d6 g' B))⟩
   · rcases b8 with h|h<;>omega
   · exact F p f0 (Ne.symm d2)
 · have C:=G.res;cases U:(step g.kd es).isSome<;>rw[U]at C
   · -- it could not be done
     have C:k2=k+1∧_≤u∧_:=C;obtain⟨-,d9,C⟩:=C;rw[S]at d9;rw[Bool.not_false,Bool.or_true];cases bad with
     | true =>have C:pr2=.sl u 0 2 2:=C;exact⟨u,1,C,Nat.le_refl 1,fun h=>by have:=(E rfl).2.1; omega⟩
     | false =>
      obtain⟨C,c,hc⟩:pr2=.sl u 0 1 2∧∃ c:Int,I[u]?=some (.cells [.list false [[.str g.al]],.int .i64 c]):=C
      refine⟨u,0,C,Nat.zero_le 1,fun _=>⟨rfl,⟨g.al,c,by rw[st u (by omega)]; exact hc⟩,by omega,?_,by omega,by omega,by omega,by omega,by omega,fun g' B=>by have:=b1 g' B; omega⟩⟩;intro e;rw[e]at hc;have h2:=G.e2;rw[h2]at hc;have h3:=congrArg (fun z:Option Cb.Obj=>(a5D z).length) hc;have h3:(l6 ((step g.kd es).getD es)).length=2:=h3;rw[a0e]at h3;omega
   · have C:k2=k+1+1∧pr2=(bif bad then .sl N 0 1 2 else .nils)∧_:=C;obtain⟨-,C,-⟩:=C;rw[Bool.not_true,Bool.or_false];cases bad with
     | true=>exact⟨N,0,C,Nat.zero_le 1,fun h=>by have:=(E rfl).2.1; omega⟩
     | false=>exact C
 · refine⟨?_,by rw[List.length_append,t.rk.2]; rfl⟩;cases Ks with
   | nil=>rfl
   | cons r rs=>exact t.rk.1
 · refine⟨?_,by rw[List.length_append,t.rl.2]; rfl⟩;cases Ls with
   | nil=>rfl
   | cons r rs=>exact t.rl.1
 · rw[e4];unfold stG;cases step g.kd es with
   | some e2=>exact⟨rfl,by simp⟩
   | none=>exact⟨rfl,by simp⟩
 · cases U:step g.kd es with
   | none=>exact⟨V,by show es.length≤_; omega,W⟩
   | some e2 =>obtain⟨a1,a2,a3⟩:=a9f V W U;exact⟨a1,by show e2.length≤_; omega,a3⟩
end Go.Cb.CodeA
namespace Go.Cb.CodeA
open Go Go.Cb
open Nat renaming reduceAdd→rA,reduceSub→rS,reduceLeDiff→rL,reduceEqDiff→rE
attribute [local congr] F2 H7 J0 I8 G6 G7 M4 M5 V.runR_congr
theorem e89 {T:St} {i:Nat} {y:Cb.Obj} (x:Cb.Obj) (h:T[i]?=some y):(T.set i x)[i]?=some x:=List.getElem?_set_self (List.getElem?_eq_some_iff.1 h).1
theorem b21 {T:St} {o d:Nat} {cs:List AV} {c:AV} (h:T[o]?=some (.cells cs)) (i:cs[d]?=some c) (call:e9) (bx:AV):F0 d call [.ptr o d,.ptr o 0] bx T=some (c,bx,T.set o (.cells (cs.set d c.weak1))):=by unfold F0;simp only[Nat.beq_refl,Nat.zero_add,and_self,if_true];unfold E8;simp only[h,i]
set_option maxHeartbeats 4000000 in
theorem b9b {T T1 T2 T4:St} {o0 G U:Nat} {j:List Ent} {D:List AV} {gs:List Gp} {sub:List (List AV)} {J:AV} (hn:gs.length≤2) (c6:j.length+gs.length≤14) (d4:∀ ρ:Nat→Nat,D.map (AV.rn ρ)=D)
 (Y:EvQ e7 41 [.agg [.sl G 0 1 4,.nils],.str []] T (fun a st'=>a=.tuple [.agg [.bool true,.str [],.list false [],.list false sub],.int .i64 0]∧st'=T1))
 (Z:EvQ e7 42 [.ptr 2 0,.list false [],D4] T1 (fun a st'=>a=.tuple [D4,J,.int .i64 0]∧st'=T2))
 (d6:J.weak=J∧J.weak1=J∧J.strip=J∧J.stripB=J)
 (a0:EvQ e7 43 [.ptr 2 0,.agg [.sl G 0 1 4,.nils],.str a8n,.list false sub,D4] (T2++[Cb.Obj.cells (rC (.sl G 0 1 4) (.sl o0 0 j.length 4) .nils 0)]++[.cells [.int .u8 6,.int .i64 0,.str [],.list true [],.list true []]]) (fun a st'=>a=.sl U 0 gs.length 2∧st'=T4))
 (l:Sep gs T2.length (T2.length+1) U G o0)
 (M:LI gs D j T2.length (T2.length+1) U G o0 0 T4 j o0 .nils 0 [] [] false) :
 EvQ e7 19 [.ptr 2 0,.agg [.sl o0 0 j.length 4],.agg [.sl G 0 1 4,.nils],.str [],D4] T (fun a st'=>∃ (es:List Ent) (o:Nat) (pr:AV) (k:Int) (C E:List (List AV)) (bad:Bool),LI gs D j T2.length (T2.length+1) U G o0 gs.length st' es o pr k C E bad∧a=.tuple [.agg [bif bad then .sl o0 0 j.length 4 else .sl o 0 es.length 4],.agg [.int .i64 0,.int .u8 6,.int .i64 0,.str [],.list false C,.list false E,bif bad then pr else .list false []]]):=by
 obtain⟨q1,q2,q3,q4⟩:=d6;have W:eqI 0 0=true:=rfl;unfold D4 at *
 refine wj (fn:=a19) rfl rfl rfl ?_;simp +contextual -implicitDefEqProofs only [K19,SS,rA,rS,rL,rE,reduceCtorEq];refine wc Y rfl rfl ?_;rintro _ _ ⟨rfl,rfl⟩;simp +contextual -implicitDefEqProofs only [K19,SS,rA,rS,rL,rE,reduceCtorEq,Bool.not_true,W];refine wc Z rfl rfl ?_;rintro _ _ ⟨rfl,rfl⟩;simp +contextual -implicitDefEqProofs only [K19,SS,rA,rS,rL,rE,reduceCtorEq,Bool.not_true,q1,q2,q3,q4,W,a03,a4u];refine wc a0 rfl rfl ?_;rintro _ T4 ⟨rfl,rfl⟩;simp +contextual -implicitDefEqProofs only [K19,SS,rA,rS,rL,rE,reduceCtorEq,q1,q2,q3,q4,List.length_append,List.length_cons,List.length_nil,Nat.zero_add];clear Y Z a0;generalize List.length _=p at l M ⊢;generalize p+1=ou at l M ⊢;refine wh (fun mm fr st'=>∃ (i:Nat) (es:List Ent) (o:Nat) (pr:AV) (k:Int) (C E:List (List AV)) (bad:Bool) (b0 z16 b3 b4:AV),i≤gs.length∧mm=gs.length - i∧fr=[.ptr 2 0,.agg [.sl o0 0 j.length 4],.agg [.sl G 0 1 4,.nils],.str [],.agg [.int .u8 6,.int .i64 0,.str [],.list false [],.list false []],.box [.sl o0 0 j.length 4],.box [.sl G 0 1 4,.nils],.box [.int .u8 6,.int .i64 0,.str [],.list false [],.list false []],.box [.nils],.box [.int .i64 0,.int .u8 0,.int .i64 0,.str [],.list true [],.list true [],.list true []],.box [.bool true,.str [],.list false [],.list false sub],.int .i64 0,.box [.int .u8 6,.int .i64 0,.str [],.list false [],.list false []],.ptr p 0,.ptr ou 0,b0,z16,b3,b4,.sl U 0 gs.length 2,.int .i64 gs.length,.int .i64 i]∧LI gs D j p ou U G o0 i st' es o pr k C E bad) (m:=gs.length) ⟨0,_,_,_,_,_,_,_,_,_,_,_,Nat.zero_le _,rfl,rfl,M⟩ ?_;rintro mm fr T ⟨i,es,o,pr,k,C,E,bad,b0,z16,b3,b4,hi,rfl,rfl,t⟩;obtain⟨e2,e3,e4,e5,e6,f0,f3,f4,f5,d8⟩:=l.d;simp +contextual -implicitDefEqProofs only [K19,SS,rA,rS,rL,rE,reduceCtorEq,ltN];by_cases B:i < gs.length
 · obtain⟨b7,a1⟩:=b68 B;have I:=List.getElem_mem B;have F:=t.ess _ I;have d5:=l.s _ I;have O:=l.k _ I;have b8:=t.eg;generalize hg:gs[i]=g at a1 I F d5 O;have c8:((i:Int) < (gs.length:Int))=True:=by simp; omega
   have d0:=e0f g.al g.kd O;simp +contextual -implicitDefEqProofs only [K19,SS,rA,rS,rL,rE,reduceCtorEq,B,c8,b8,b7,a1,if_true,F,d0,List.map_cons,List.map_nil,Nat.zero_mul,show((0:Int) < ((1:Nat):Int))=True by simp];refine wc (EvQ.of_ev (d7k t.base O) (Q:=fun a st'=>a=.tuple [fD g.kd,.bool true]∧st'=T) ⟨rfl,rfl⟩) rfl rfl ?_;rintro _ _ ⟨rfl,rfl⟩;obtain⟨s1,l1,s2,l2,b1,b2,f1,f2,s3,l3,l4,c0⟩:=c59 g.kd;obtain⟨a,V,d9,o2,pr2,k2,d7,N,L,S,e0,e1,x,y,z,ks,vs,rfl,b6⟩:=t.field l d4 c6 B hg hn;have u:=t.ep;have c3:D9 .i64 (a5t k 1)=k+1:=by
    have h1:=t.kk;have:k=0∨k=1∨k=2:=by omega
    rcases this with rfl|rfl|rfl<;>rfl
   have d2:=t.rk.1;have d3:=t.rl.1;unfold rC at u L N;rw[c0]at N ⊢;simp +contextual -implicitDefEqProofs only [K19,SS,rA,rS,rL,rE,reduceCtorEq,Bool.not_true,u,c3];refine wc (EvQ.of_ev N (Q:=fun a st'=>a=.agg [.int .u8 x,.int .i64 y,.str z,.list false ks,.list false vs]∧st'=V) ⟨rfl,rfl⟩) rfl rfl ?_;rintro _ V ⟨rfl,rfl⟩;have h5:ltI 5000 k2=false:=by rw[ltI_eq]; exact decide_eq_false (by omega)
   have F:∀ X:Cb.Obj,(List.set V ou X)[ou]?=some X:=fun X=>e89 X S
   have hA:=fun call bx=>b21 (T:=V) (o:=ou) (d:=3) S rfl call bx
   have hB:=fun call bx=>b21 (T:=List.set V ou (Cb.Obj.cells [.int .u8 6,.int .i64 0,.str [],.list false C,.list true E])) (o:=ou) (d:=4) (F _) rfl call bx
   have ew:(AV.list true C).weak1=.list false C:=rfl;have b5:(AV.list true E).weak1=.list false E:=rfl;simp only[List.set_cons_succ,List.set_cons_zero,ew,b5,List.set_set]at hA hB;have c4:(C.length+1)*16≤2 ^ 47:=by have:=t.rk.2; omega
   have c7:(E.length+1)*80≤2 ^ 47:=by have:=t.rl.2; omega
   simp +contextual -implicitDefEqProofs only [K19,SS,rA,rS,rL,rE,reduceCtorEq,Bool.not_true,L,S,h5,d2,d3,hA,hB,F,c4,c7,List.set_set,a0Q (show i+1 < 2 ^ 63 by omega)];exact we (m':=gs.length - (i+1)) (by omega) ⟨i+1,_,_,_,_,_,_,_,_,_,_,_,B,rfl,rfl,b6⟩
 · have c2:i=gs.length:=by omega
   subst c2;have u:=t.ep;have a2:=t.eu;unfold rC at u;simp +contextual -implicitDefEqProofs only [K19,SS,rA,rS,rL,rE,reduceCtorEq,B];refine wg ?_;cases bad with
   | false =>have d1:pr=.nils:=t.prob;subst d1;simp +contextual -implicitDefEqProofs only [K19,SS,rA,rS,rL,rE,reduceCtorEq,u,a2,show ltI 0 ((0:Nat):Int)=false from rfl,show ltI 0 0=false from rfl];exact wd ⟨_,_,rfl,es,o,_,k,C,E,false,t,rfl⟩
   | true =>
    obtain⟨pp,nn,rfl,-⟩:=t.prob;have c1:ltI 0 ((nn+1:Nat):Int)=true:=by rw[ltI_eq]; exact decide_eq_true (by omega)
    simp +contextual -implicitDefEqProofs only [K19,SS,rA,rS,rL,rE,reduceCtorEq,u,a2,c1];exact wd ⟨_,_,rfl,es,o,_,k,C,E,true,t,rfl⟩
end Go.Cb.CodeA
namespace Go.Cb.CodeA
open Go Go.Cb Go.Cb.G
def fT:Nat→List Nat
 | 0=>[58,32,99,114,101,97,116,101,68,111,103,40,105,100,58,32,34,97,34,44,32,105,110,112,117,116,58,32,123,98,97,114,107,115,58,32,116,114,117,101,125,41,32,123,98,97,114,107,115,125]
 | 1=>[58,32,99,114,101,97,116,101,67,97,116,40,105,100,58,32,34,98,34,44,32,105,110,112,117,116,58,32,123,110,97,109,101,58,32,34,81,34,44,32,108,105,118,101,115,58,32,50,44,32,111,119,110,101,114,58,32,34,97,34,125,41,32,123,110,97,109,101,125]
 | 2=>[58,32,117,112,100,97,116,101,80,101,114,115,111,110,40,105,100,58,32,34,99,34,44,32,105,110,112,117,116,58,32,123,97,103,101,58,32,53,44,32,102,114,105,101,110,100,115,58,32,91,34,97,34,93,125,41,32,123,97,103,101,125]
 | 3=>[58,32,100,101,108,101,116,101,80,101,114,115,111,110,40,105,100,58,32,34,97,34,41,32,123,97,103,101,125]
 | _=>[58,32,100,101,108,101,116,101,67,97,116,40,105,100,58,32,34,98,34,41,32,123,95,95,116,121,112,101,110,97,109,101,125]
def txS:List Nat:=[109,117,116,97,116,105,111,110,32,123]
def c86 (kd a:Nat):List Nat:=txS++(a::fT kd)++[125]
def b5E (k1 k2:Nat):List Nat:=txS++(120::fT k1)++32::(121::fT k2)++[125]
abbrev Dc:=List Nat×List (Nat×List Nat)
def one (kd a:Nat):Dc:=(c86 kd a,[(kd,[a])])
def two (k1 k2:Nat):Dc:=(b5E k1 k2,[(k1,[120]),(k2,[121])])
noncomputable section
def r19 (d:Dc):=callG e7 3000 18 [.ptr 2 0,.str d.1] T_b0
def stO (x:Option (AV×St)):St:=match x with|some (_,s)=>s|none=>[]
def avO (x:Option (AV×St)):AV:=match x with|some (a,_)=>a|none=>.undef
def T1 (d:Dc):St:=stO (r19 d)
def qaF (d:Dc):Nat:=match avO (r19 d)with|.tuple [.agg [.sl o _ _ _,_],_]=>o|_=>0
def dA (d:Dc):AV:=.agg [.sl (qaF d) 0 1 4,.nils]
def r43 (d:Dc):=callG e7 3000 41 [dA d,.str []] (T1 d)
def a3j (d:Dc):List (List AV):=match avO (r43 d)with|.tuple [.agg [_,_,_,.list _ s],_]=>s|_=>[]
def T1b (d:Dc):St:=stO (r43 d)
def r44 (d:Dc):=callG e7 3000 42 [.ptr 2 0,.list false [],D4] (T1b d)
def x1F (d:Dc):AV:=match avO (r44 d)with|.tuple [_,x,_]=>x|_=>.undef
def T2 (d:Dc):St:=stO (r44 d)
def r45 (d:Dc):=callG e7 3000 43 [.ptr 2 0,dA d,.str a8n,.list false (a3j d),D4] (T2 d)
def ggF (d:Dc):Nat:=match avO (r45 d)with|.sl o _ _ _=>o|_=>0
def T4 (d:Dc):St:=stO (r45 d)
def sF (d:Dc) (i:Nat):Nat:=match (a5D ((T4 d)[ggF d]?)).getD (2*i+1) .undef with|.sl o _ _ _=>o|_=>0
def gsF (d:Dc):List Gp:=d.2.zipIdx.map fun x=>⟨x.1.1,x.1.2,sF d x.2⟩
def DF (d:Dc):List AV:=a5D ((T4 d)[qaF d]?)
def m8 (d:Dc):Prop:=r19 d=some (.tuple [dA d,.int .i64 0],T1 d)∧r43 d=some (.tuple [.agg [.bool true,.str [],.list false [],.list false (a3j d)],.int .i64 0],T1b d)∧r44 d=some (.tuple [D4,x1F d,.int .i64 0],T2 d)∧r45 d=some (.sl (ggF d) 0 (gsF d).length 2,T4 d)∧(T1 d).take 31=T_b0∧(T1b d).take (T1 d).length=T1 d∧(T2 d).take (T1b d).length=T1b d∧(T4 d).take (T2 d).length=T2 d∧(T4 d)[qaF d]?=some (.cells (DF d))∧RN.shuVs (DF d)=true∧(T4 d)[ggF d]?=some (.cells (a0J (gsF d)))∧((gsF d).map fun g=>(T4 d)[g.s]?)=((gsF d).map fun g=>some (.cells (sel g.kd g.al)))∧Nat.blt 30 (qaF d)=true∧Nat.blt (qaF d) (T1 d).length=true∧Nat.ble (T2 d).length (ggF d)=true∧((gsF d).all fun g=>Nat.ble (T2 d).length g.s && !Nat.beq g.s (ggF d))=true∧x1F d=.str []∧RN.shuRs (a3j d)=true∧(fun(f g:Nat→Nat)=>(T2 d).map (Obj.rn fun i=>bif Nat.blt i (T2 d).length then f i else g i))=(fun(f g:Nat→Nat)=>(T2 d).map (Obj.rn f))
end
end Go.Cb.CodeA
namespace Go.Cb.CodeA
open Go Go.Cb Go.Cb.G
theorem c9t (f:Nat→Nat):T_b0.map (Obj.rn (fun i=>bif Nat.blt i 31 then i else f i))=T_b0:=by kernel_rfl
theorem d9Q {ρ:Nat→Nat} (h:∀ i,i < 31→ρ i=i):T_b0.map (Obj.rn ρ)=T_b0:=by
 have e:ρ=fun i=>bif Nat.blt i 31 then i else ρ i:=by
  funext i;by_cases hi:i < 31
  · rw[show Nat.blt i 31=true by rw[Nat.blt_eq]; exact hi,h i hi]; rfl
  · rw[show Nat.blt i 31=false by rw[← Bool.not_eq_true,Nat.blt_eq]; exact hi]; rfl
 exact e ▸ c9t ρ
theorem b7I (f:Nat→Nat):∀ as:List AV,F8 f as=as.map (AV.rn f)
 | []=>rfl
 | a::as=>by rw[F8,b7I f as]; rfl
theorem b3b {cs:List AV} (h:RN.shuVs cs=true) (f:Nat→Nat):cs.map (AV.rn f)=cs:=by rw[← b7I]; exact RN.shuVs_sh f cs h
theorem a2a {A B:St} {n:Nat} (h:A.take n=B) {i:Nat} (hi:i < n):A[i]?=B[i]?:=by rw[← h,List.getElem?_take,if_pos hi]
theorem a7b {A B:St} (h:A.take B.length=B):B.length≤A.length:=by have:=congrArg List.length h;rw[List.length_take]at this;omega
section
variable (T:St) (l31:31≤T.length)
theorem b6M:∀ i j,i < 31→j < 31→qm [] i=qm [] j→i=j:=fun i j l t e=>by rw[E6 l,E6 t]at e; exact e
include l31 in
theorem c2s:∀ i,i < 31→qm [] i < T.length:=fun i j=>by rw[E6 j]; omega
def RT:Rn:=RN.frame (T:=T) (n:=31) (q:=qm []) b6M (c2s T l31)
theorem a9U {i:Nat} (h:i < 31):(RT T l31).ρ i=i:=by show RN.rho T 31 (qm []) i=i; unfold RN.rho; rw[if_pos h,E6 h]
theorem c2i {i:Nat} (h:31≤i):(RT T l31).ρ i=i - 31+T.length:=by show RN.rho T 31 (qm []) i=_; unfold RN.rho; rw[if_neg (by omega)]
theorem c5B (x:∀ a,a < 31→T[a]?=T_b0[a]?):(RT T l31).ms T_b0=T:=by
 show RN.mst T 31 (qm []) T_b0=T;apply List.ext_getElem?;intro j;by_cases i:j < 31
 · have:=RN.mst_get (T:=T) b6M (c2s T l31) (st:=T_b0) (by rw[b0_len]; decide) j;rw[show RN.rho T 31 (qm []) j=j by unfold RN.rho; rw[if_pos i,E6 i]]at this;rw[this,x j i];have:=congrArg (fun l=>l[j]?) (b1L T);rw[List.getElem?_map]at this;exact this
 · by_cases t:j < T.length
   · exact RN.mst_other t fun a u e=>by rw[E6 u]at e; omega
   · rw[List.getElem?_eq_none (by rw[RN.mst_len,b0_len]; omega),List.getElem?_eq_none (by omega)]
theorem d52 {st:St} (h:31≤st.length):((RT T l31).ms st).length=T.length+(st.length - 31):=RN.mst_len
theorem b8t {st:St} {j:Nat} (t:j < T.length) (i:31≤j):((RT T l31).ms st)[j]?=T[j]?:=RN.mst_other t fun a l e=>by rw[E6 l]at e; omega
end
theorem d8w {d:Dc} (hF:m8 d) {T:St} (hb:∀ a,a < 31→T[a]?=T_b0[a]?) {o0:Nat} {y:List Ent} (V:T[o0]?=some (.cells (l6 y))) (z:31≤o0) (d2:y.length+d.2.length≤14) (c7:j0 y) (c2:∀ e∈y,GJ e) (hk:∀ x∈d.2,x.1 < 5) :
 ∃ (N gg:Nat) (gs:List Gp) (sub:List (List AV)) (U1 Z u S:St),(gs.map fun g=>(g.kd,g.al))=d.2∧Ev e7 18 [.ptr 2 0,.str d.1] T (.tuple [.agg [.sl N 0 1 4,.nils],.int .i64 0]) U1∧Ev e7 41 [.agg [.sl N 0 1 4,.nils],.str []] U1 (.tuple [.agg [.bool true,.str [],.list false [],.list false sub],.int .i64 0]) Z∧Ev e7 42 [.ptr 2 0,.list false [],D4] Z (.tuple [D4,.str [],.int .i64 0]) u ∧
  Ev e7 43 [.ptr 2 0,.agg [.sl N 0 1 4,.nils],.str a8n,.list false sub,D4] (u++[Cb.Obj.cells (rC (.sl N 0 1 4) (.sl o0 0 y.length 4) .nils 0)]++[.cells [.int .u8 6,.int .i64 0,.str [],.list true [],.list true []]]) (.sl gg 0 gs.length 2) S∧Sep gs u.length (u.length+1) gg N o0∧LI gs (DF d) y u.length (u.length+1) gg N o0 0 S y o0 .nils 0 [] [] false:=by
 obtain⟨f19,f43,f44,f45,t1,b3,t2,t4,fD,sD,fG,fS,q1,q2,g1,g2,sx,ss,sc⟩:=hF;have l31:31≤T.length:=by have:=q9 V; omega
 have L1:31≤(T1 d).length:=by have:=congrArg List.length t1; rw[List.length_take,b0_len]at this; omega
 have d1:=a7b b3;have L2:=a7b t2;have L4:=a7b t4;let R:=RT T l31
 have c0:R.ms T_b0=T:=c5B T l31 hb;have a2:31≤qaF d:=by have:=Nat.lt_of_lt_of_le (Nat.lt_succ_self 30) (Nat.le_refl 31); rw[Nat.blt_eq]at q1; omega
 have d0:qaF d < (T1 d).length:=by rw[Nat.blt_eq]at q2; exact q2
 have c3:(T2 d).length≤ggF d:=Nat.le_of_ble_eq_true g1
 -- the calls at the schema's store, moved
 have X:=(RN.ev_rn (R:=R) a4f (show 31≤T_b0.length by rw[b0_len]; decide) (ev_ofG f19)).1;have b4:=(RN.ev_rn (R:=R) a4f (show 31≤(T1 d).length from L1) (ev_ofG f43)).1;have b5:=(RN.ev_rn (R:=R) a4f (show 31≤(T1b d).length by omega) (ev_ofG f44)).1;rw[c0]at X;have r2:R.ρ 2=2:=a9U T l31 (by decide);have rq:R.ρ (qaF d)=qaF d - 31+T.length:=c2i T l31 a2;have rx:(x1F d).rn R.ρ=x1F d:=by rw[sx]; rfl
 have rs:=RN.shuRs_sh R.ρ (a3j d) ss;have b7:Ev e7 41 [.agg [.sl (R.ρ (qaF d)) 0 1 4,.nils],.str []] (R.ms (T1 d)) (.tuple [.agg [.bool true,.str [],.list false [],.list false (a3j d)],.int .i64 0]) (R.ms (T1b d)):=by have h:=b4;simp only[List.map_cons,List.map_nil,AV.rn,dA,F8,S5,rs]at h;exact h
 have b8:Ev e7 42 [.ptr 2 0,.list false [],D4] (R.ms (T1b d)) (.tuple [D4,x1F d,.int .i64 0]) (R.ms (T2 d)):=by have h:=b5;simp only[List.map_cons,List.map_nil,AV.rn,D4,F8,S5,rx,r2]at h;exact h
 have b6:Ev e7 18 [.ptr 2 0,.str d.1] T (.tuple [.agg [.sl (R.ρ (qaF d)) 0 1 4,.nils],.int .i64 0]) (R.ms (T1 d)):=by have h:=X;simp only[List.map_cons,List.map_nil,AV.rn,dA,F8,r2]at h;exact h
 -- the runner and what is told come behind
 obtain⟨u,C⟩:∃ U,R.ms (T2 d)=U:=⟨_,rfl⟩
 have d3:u.length=T.length+((T2 d).length - 31):=by rw[← C]; exact d52 T l31 (by omega)
 obtain⟨rc,b0⟩:∃ c,c=Cb.Obj.cells (rC (.sl (R.ρ (qaF d)) 0 1 4) (.sl o0 0 y.length 4) .nils 0):=⟨_,rfl⟩
 obtain⟨uc,b1⟩:∃ c,c=Cb.Obj.cells [.int .u8 6,.int .i64 0,.str [],.list true [],.list true []]:=⟨_,rfl⟩
 obtain⟨W,hW⟩:∃ W,W=u++[rc]++[uc]:=⟨_,rfl⟩
 have lW:W.length=u.length+2:=by rw[hW]; simp
 have O:∀ j,j < u.length→W[j]?=u[j]?:=fun j hj=>by rw[hW,List.append_assoc,List.getElem?_append_left hj]
 have Wp:W[u.length]?=some rc:=by rw[hW,List.append_assoc,List.getElem?_append_right (Nat.le_refl _),Nat.sub_self]; rfl
 have Wu:W[u.length+1]?=some uc:=by rw[hW,List.append_assoc,List.getElem?_append_right (by omega),show u.length+1 - u.length=1 by omega]; rfl
 have G2:R.G (T2 d):=show 31≤(T2 d).length by omega
 have im:∀ a,a < (T2 d).length→R.ρ a < u.length:=fun a J=>by have:=R.get G2 a;rw[List.getElem?_eq_getElem J,Option.map_some,C]at this;exact q9 this
 have c4:∀ a b,a < (T2 d).length→b < (T2 d).length→R.ρ a=R.ρ b→a=b:=fun a b _ _ e=>R.inj.1 e
 have c6:∀ a,a < (T2 d).length→R.ρ a < W.length:=fun a J=>by have:=im a J; omega
 have rr:RN.rho W (T2 d).length R.ρ=fun i=>bif Nat.blt i (T2 d).length then R.ρ i else i - (T2 d).length+W.length:=by
  funext i;unfold RN.rho;by_cases h:i < (T2 d).length
  · rw[if_pos h,show Nat.blt i (T2 d).length=true by rw[Nat.blt_eq]; exact h]; rfl
  · rw[if_neg h,show Nat.blt i (T2 d).length=false by rw[← Bool.not_eq_true,Nat.blt_eq]; exact h]; rfl
 have c1:∀ a,a < (T2 d).length→W[R.ρ a]?=((T2 d)[a]?).map (Obj.rn (RN.rho W (T2 d).length R.ρ)):=fun a J=>by have E:=congrFun (congrFun sc R.ρ) (fun i=>i - (T2 d).length+W.length);dsimp only at E;rw[← rr]at E;have F:=congrArg (fun l=>l[a]?) E;simp only[List.getElem?_map]at F;rw[F,← R.get G2 a,C];exact O _ (im a J)
 obtain⟨S,Y,l4,k1,k2⟩:=RN.Ev.framed (T:=W) (n:=(T2 d).length) (q:=R.ρ) c4 c6 a4f rfl c1 (ev_ofG f45);obtain⟨t,B⟩:∃ f,f=RN.rho W (T2 d).length R.ρ:=⟨_,rfl⟩
 rw[← B]at Y k2;have L:∀ i,i < (T2 d).length→t i=R.ρ i:=fun i hi=>by rw[B]; unfold RN.rho; rw[if_pos hi]
 have a1:∀ i,(T2 d).length≤i→t i=i - (T2 d).length+W.length:=fun i hi=>by rw[B]; unfold RN.rho; rw[if_neg (by omega)]
 have c8:S5 t (a3j d)=a3j d:=by rw[B]; exact RN.shuRs_sh _ (a3j d) ss
 have p2:t 2=2:=by rw[L 2 (by omega),r2]
 have pq:t (qaF d)=R.ρ (qaF d):=L _ (by omega);have pg:t (ggF d)=ggF d - (T2 d).length+W.length:=a1 _ c3;have ps:∀ g∈gsF d,(T2 d).length≤g.s∧g.s≠ggF d:=fun g hg=>by have h:=List.all_eq_true.1 g2 g hg;rw[Bool.and_eq_true]at h;refine⟨Nat.le_of_ble_eq_true h.1,fun e=>?_⟩;have F:=h.2;rw[e,Nat.beq_refl]at F;cases F
 have b2:∀ g∈gsF d,t g.s=g.s - (T2 d).length+W.length:=fun g hg=>a1 _ (ps g hg).1
 have a0:Ev e7 43 [.ptr 2 0,.agg [.sl (R.ρ (qaF d)) 0 1 4,.nils],.str a8n,.list false (a3j d),D4] W (.sl (t (ggF d)) 0 (gsF d).length 2) S:=by have h:=Y;simp only[List.map_cons,List.map_nil,AV.rn,dA,D4,F8,S5,c8,p2,pq]at h;exact h
 have keep:∀ j,j < W.length→(31≤j∧j < T.length∨u.length≤j)→S[j]?=W[j]?:=fun j hj h=>k1 j hj fun a J e=>by
  have E:=im a J;by_cases h3:a < 31
  · have:R.ρ a=a:=a9U T l31 h3;omega
  · have:R.ρ a=a - 31+T.length:=c2i T l31 (by omega);omega
 refine⟨R.ρ (qaF d),t (ggF d),(gsF d).map fun g=>⟨g.kd,g.al,t g.s⟩,a3j d,R.ms (T1 d),R.ms (T1b d),u,S,?_,b6,b7,by rw[← C,← sx]; exact b8,?_,?_,?_⟩
 · unfold gsF;rw[List.map_map,List.map_map];exact List.zipIdx_map_fst 0 d.2
 · rw[List.length_map];rw[hW,b0,b1]at a0;exact a0
 · have I:=q9 V;have hq:=rq;generalize R.ρ (qaF d)=N at hq ⊢;refine⟨by omega,by omega,fun g hg=>?_,fun g hg=>?_⟩
   · obtain⟨g0,M,rfl⟩:=List.mem_map.1 hg;have E:=b2 g0 M;have F:=ps g0 M;have:=q9 V;dsimp only;omega
   · obtain⟨g0,M,rfl⟩:=List.mem_map.1 hg;obtain⟨x,hx,rfl⟩:=List.mem_map.1 M;exact hk _ (List.fst_mem_of_mem_zipIdx hx)
 · have I:=q9 V;have iq:=k2 (qaF d);rw[pq,fD,Option.map_some,Obj.rn]at iq;have iD:(DF d).map (AV.rn t)=DF d:=b3b sD _;rw[iD]at iq;have ig:=k2 (ggF d);rw[fG,Option.map_some,Obj.rn]at ig;refine⟨fun a J=>?_,?_,?_,iq,?_,?_,?_,?_,?_,rfl,⟨Int.le_refl 0,by decide⟩,⟨rfl,rfl⟩,⟨rfl,rfl⟩,⟨by simp[a1d],by simp[a1d]⟩,⟨c7,by omega,c2⟩⟩
   · have E:=k2 a;rw[L a (by omega),show R.ρ a=a from a9U T l31 J]at E;rw[E];have F:(T4 d)[a]?=T_b0[a]?:=by rw[a2a t4 (by omega),a2a t2 (by omega),a2a b3 (by omega),a2a t1 J]
     rw[F];have h3:=congrArg (fun l=>l[a]?) (d9Q (ρ:=t) fun i hi=>by rw[L i (by omega)]; exact a9U T l31 hi);simp only[List.getElem?_map]at h3;exact h3
   · rw[keep _ (by omega) (.inr (Nat.le_refl _)),Wp,b0]
   · rw[keep _ (by omega) (.inl ⟨z,I⟩),O _ (by omega),← C];exact(b8t T l31 I z).trans V
   · rw[keep _ (by omega) (.inr (by omega)),Wu,b1]
   · rw[ig];congr 2;unfold a0J;rw[List.map_flatten,List.map_map,List.map_map];rfl
   · intro g hg;obtain⟨g0,M,rfl⟩:=List.mem_map.1 hg;have E:=List.map_inj_left.1 fS g0 M;have F:=k2 g0.s;rw[E,Option.map_some,Obj.rn,a5N]at F;exact F
   · rw[keep _ (by omega) (.inl ⟨z,I⟩),O _ (by omega),← C];exact(b8t T l31 I z).trans V
   · have hq:=rq;generalize R.ρ (qaF d)=N at hq ⊢;refine⟨z,by omega,by omega,by omega,by omega,fun g hg=>?_⟩;obtain⟨g0,M,rfl⟩:=List.mem_map.1 hg;have E:=b2 g0 M;dsimp only;omega
end Go.Cb.CodeA
namespace Go.Cb.CodeA
open Go Go.Cb
open Nat renaming reduceAdd→rA,reduceSub→rS,reduceLeDiff→rL,reduceEqDiff→rE
attribute [local congr] F2 H7 J0 I8 G6 G7 M4 M5 V.runR_congr
def stK (r:List Ent×Bool) (k:Nat):List Ent×Bool:=match step k r.1 with|some e2=>(e2,r.2)|none=>(r.1,true)
theorem a7B (i:List Ent):∀ l:List Gp,a1d i l=(l.reverse.map (·.kd)).foldl stK (i,false)
 | []=>rfl
 | g::l=>by rw[List.reverse_cons,List.map_append,List.foldl_append,← a7B i l];rfl
def rD (ks:List Nat) (i:List Ent):List Ent×Bool:=ks.foldl stK (i,false)
structure DoP (ks:List Nat) (es0:List Ent) (o0:Nat) (a:AV) (st':St) (es:List Ent) (bad:Bool) (v:AV) (pv:AV):Prop where
 run:(es,bad)=rD ks es0
 ans:∃ Ks Ls,a=.tuple [.agg [v],.agg [.int .i64 0,.int .u8 6,.int .i64 0,.str [],.list false Ks,.list false Ls,pv]]
 base:∀ i,i < 31→st'[i]?=T_b0[i]?
 e0:st'[o0]?=some (.cells (l6 es0))
 ok:bad=false→pv=.list false []∧∃ o,v=.sl o 0 es.length 4∧st'[o]?=some (.cells (l6 es))∧31≤o
 no:bad=true→v=.sl o0 0 es0.length 4∧∃ pp nn,pv=.sl pp 0 (nn+1) 2∧nn≤1
 gd:j0 es∧es.length≤es0.length+ks.length∧∀ e∈es,GJ e
theorem e6Q {d:Dc} (Y:m8 d) {T:St} (hb:∀ a,a < 31→T[a]?=T_b0[a]?) {o0:Nat} {i:List Ent} (ho:T[o0]?=some (.cells (l6 i))) (z:31≤o0) (O:i.length+d.2.length≤14) (U:j0 i) (M:∀ e∈i,GJ e) (hk:∀ x∈d.2,x.1 < 5) (hn:d.2.length≤2) :
 EvQ e7 8 [.ptr 2 0,.agg [.sl o0 0 i.length 4],.str d.1,D4] T (fun a st'=>∃ es bad v pv,DoP (d.2.map (·.1)) i o0 a st' es bad v pv):=by
 obtain⟨qa,gg,gs,sub,X,C,Z,U4,u,F,G,I,J,B,L⟩:=d8w Y hb ho z O U M hk;have y:gs.length=d.2.length:=by rw[← u,List.length_map]
 have hD:∀ ρ:Nat→Nat,(DF d).map (AV.rn ρ)=DF d:=b3b Y.2.2.2.2.2.2.2.2.2.1
 have hm:=b9b (T:=X) (T1:=C) (T2:=Z) (T4:=U4) (by omega) (by omega) hD (EvQ.of_ev G ⟨rfl,rfl⟩) (EvQ.of_ev I ⟨rfl,rfl⟩) ⟨rfl,rfl,rfl,rfl⟩ (EvQ.of_ev J ⟨rfl,rfl⟩) B L;have N:gs.map (·.kd)=d.2.map (·.1):=by rw[← u,List.map_map]; rfl
 have E:eqI 0 0=true:=rfl;unfold D4 at *
 refine wj (fn:=a8) rfl rfl rfl ?_;simp +contextual -implicitDefEqProofs only [K8,SS,rA,rS,rL,rE,reduceCtorEq];refine wc (EvQ.of_ev F (Q:=fun a st'=>a=.tuple [.agg [.sl qa 0 1 4,.nils],.int .i64 0]∧st'=X) ⟨rfl,rfl⟩) rfl rfl ?_;rintro _ _ ⟨rfl,rfl⟩;simp +contextual -implicitDefEqProofs only [K8,SS,rA,rS,rL,rE,reduceCtorEq,Bool.not_true,E];refine wc hm rfl rfl ?_;rintro _ st' ⟨es,o,pr,k,V,W,bad,j,rfl⟩;have l:(es,bad)=rD (d.2.map (·.1)) i:=by have h:=j.so;rw[List.take_length,a7B,List.reverse_reverse,N]at h;exact Prod.ext h.1 h.2
 have t:=j.gd;rw[y]at t;cases bad with
 | false =>simp +contextual -implicitDefEqProofs only [K8,SS,rA,rS,rL,rE,reduceCtorEq,cond_false];exact wd ⟨_,_,rfl,es,false,_,_,⟨l,⟨V,W,rfl⟩,j.base,j.e0,fun _=>⟨rfl,o,rfl,j.eo,j.dst.1⟩,fun h=>(by cases h),by rw[List.length_map]; exact t⟩⟩
 | true =>obtain⟨pp,nn,rfl,S,-⟩:=j.prob;simp +contextual -implicitDefEqProofs only [K8,SS,rA,rS,rL,rE,reduceCtorEq,cond_true];exact wd ⟨_,_,rfl,es,true,_,_,⟨l,⟨V,W,rfl⟩,j.base,j.e0,fun h=>(by cases h),fun _=>⟨rfl,pp,nn,rfl,S⟩,by rw[List.length_map]; exact t⟩⟩
end Go.Cb.CodeA
namespace Go.Cb.CodeA
open Go Go.Cb Go.Cb.G
noncomputable section
def r9 (d:Dc):=callG e7 3000 8 [.ptr 2 0,.agg [.nils],.str d.1,D4] T_b0
def an9 (d:Dc):AV:=avO (r9 d)
def T9 (d:Dc):St:=stO (r9 d)
def vN (d:Dc):AV:=match an9 d with|.tuple [.agg [v],_]=>v|_=>.undef
def pvN (d:Dc):AV:=match an9 d with|.tuple [_,.agg [_,_,_,_,_,_,p]]=>p|_=>.undef
def KsN (d:Dc):List (List AV):=match an9 d with|.tuple [_,.agg [_,_,_,_,.list _ k,_,_]]=>k|_=>[]
def LsN (d:Dc):List (List AV):=match an9 d with|.tuple [_,.agg [_,_,_,_,_,.list _ k,_]]=>k|_=>[]
def oN (d:Dc):Nat:=match vN d with|.sl o _ _ _=>o|_=>0
def ppN (d:Dc):Nat:=match pvN d with|.sl o _ _ _=>o|_=>0
def nnN (d:Dc):Nat:=match pvN d with|.sl _ _ n _=>n - 1|_=>0
def eN (d:Dc):List Ent:=(rD (d.2.map (·.1)) []).1
def bN (d:Dc):Bool:=(rD (d.2.map (·.1)) []).2
def m3 (d:Dc):Prop:=r9 d=some (.tuple [.agg [vN d],.agg [.int .i64 0,.int .u8 6,.int .i64 0,.str [],.list false (KsN d),.list false (LsN d),pvN d]],T9 d)∧(T9 d).take 31=T_b0∧vN d=(bif bN d then .nils else .sl (oN d) 0 (eN d).length 4)∧pvN d=(bif bN d then .sl (ppN d) 0 (nnN d+1) 2 else .list false [])∧(bif bN d then some (.cells (l6 (eN d)))else(T9 d)[oN d]?)=some (.cells (l6 (eN d)))∧(bif bN d then Nat.ble (nnN d) 1 else Nat.blt 30 (oN d))=true
end
end Go.Cb.CodeA
namespace Go.Cb.CodeA
open Go Go.Cb Go.Cb.G
theorem d0Y (f g:Nat→Nat):T_b0.map (Obj.rn fun i=>bif Nat.blt i 31 then f i else g i)=T_b0.map (Obj.rn f):=by kernel_rfl
theorem b8C {ρ f:Nat→Nat} (h:∀ i,i < 31→ρ i=f i):T_b0.map (Obj.rn ρ)=T_b0.map (Obj.rn f):=by
 have e:ρ=fun i=>bif Nat.blt i 31 then f i else ρ i:=by
  funext i;by_cases hi:i < 31
  · rw[show Nat.blt i 31=true by rw[Nat.blt_eq]; exact hi,h i hi]; rfl
  · rw[show Nat.blt i 31=false by rw[← Bool.not_eq_true,Nat.blt_eq]; exact hi]; rfl
 exact(congrArg (fun r=>T_b0.map (Obj.rn r)) e).trans (d0Y f ρ)
def Bs (T:St):Prop:=∀ i,i < 31→T[i+130]?=(T_b0[i]?).map (Obj.rn (·+130))
def EL (v:AV) (es:List Ent) (T:St):Prop:=(v=.nils∧es=[])∨∃ o,v=.sl o 0 es.length 4∧T[o]?=some (.cells (l6 es))∧161≤o
theorem EL.at {v:AV} {es:List Ent} {T:St} (h:EL v es T):EntsAt v es T:=h.imp id fun⟨o,a,b,_⟩=>⟨o,a,b⟩
theorem b9H {k:Nat} {r:List Ent×Bool} (hs:j0 r.1) (hg:∀ e∈r.1,GJ e):j0 (stK r k).1∧(stK r k).1.length≤r.1.length+1∧∀ e∈(stK r k).1,GJ e:=by
 unfold stK;cases h:step k r.1 with
 | some e2=>exact a9f hs hg h
 | none=>exact⟨hs,Nat.le_succ _,hg⟩
theorem b0n:∀ (ks:List Nat) (r:List Ent×Bool),j0 r.1→(∀ e∈r.1,GJ e)→j0 (ks.foldl stK r).1∧(ks.foldl stK r).1.length≤r.1.length+ks.length∧∀ e∈(ks.foldl stK r).1,GJ e
 | [],r,hs,hg=>⟨hs,Nat.le_refl _,hg⟩
 | k::ks,r,hs,hg=>by obtain⟨a,b,c⟩:=b9H (k:=k) hs hg;obtain⟨x,y,z⟩:=b0n ks (stK r k) a c;exact⟨x,by rw[List.length_cons]; show(ks.foldl stK (stK r k)).1.length≤_; omega,z⟩
structure DL (ks:List Nat) (es0:List Ent) (v0:AV) (T:St) (a:AV) (T':St) (es:List Ent) (bad:Bool) (v pv:AV):Prop where
 run:(es,bad)=rD ks es0
 ans:∃ Ks Ls,a=.tuple [.agg [v],.agg [.int .i64 0,.int .u8 6,.int .i64 0,.str [],.list false Ks,.list false Ls,pv]]
 base:Bs T'
 keep:∀ w es,EL w es T→EL w es T'
 ok:bad=false→pv=.list false []∧EL v es T'
 no:bad=true→v=v0∧∃ pp nn,pv=.sl pp 0 (nn+1) 2∧nn≤1
theorem c2q {ρ:Nat→Nat} (t:∀ i,i < 31→ρ i=i+130) (y:∀ i,31≤i→161≤ρ i) {T x st':St} (k2:∀ o,x[ρ o]?=(st'[o]?).map (Obj.rn ρ)) {ks:List Nat} {j es:List Ent} {bad:Bool} {v0 w v pv a:AV} (G:w.rn ρ=v0)
 (run:(es,bad)=rD ks j) (ans:∃ B C,a=.tuple [.agg [v],.agg [.int .i64 0,.int .u8 6,.int .i64 0,.str [],.list false B,.list false C,pv]]) (base:∀ i,i < 31→st'[i]?=T_b0[i]?) (ok:bad=false→pv=.list false []∧∃ o,v=.sl o 0 es.length 4∧st'[o]?=some (.cells (l6 es))∧31≤o) (no:bad=true→v=w∧∃ z nn,pv=.sl z 0 (nn+1) 2∧nn≤1) (keep:∀ w es,EL w es T→EL w es x) :
 DL ks j v0 T (a.rn ρ) x es bad (v.rn ρ) (pv.rn ρ):=by
 refine⟨run,?_,fun i hi=>?_,keep,fun h=>?_,fun h=>?_⟩
 · obtain⟨B,C,rfl⟩:=ans;exact⟨_,_,rfl⟩
 · have u:=k2 i;rw[t i hi,base i hi]at u;rw[u];have E:=congrArg (fun l=>l[i]?) (b8C t);simp only[List.getElem?_map]at E;exact E
 · obtain⟨rfl,o,rfl,u,F⟩:=ok h;refine⟨rfl,.inr ⟨ρ o,rfl,?_,y o F⟩⟩;rw[k2 o,u,Option.map_some,Obj.rn,N4]
 · obtain⟨rfl,z,nn,rfl,hn⟩:=no h;exact⟨G,ρ z,nn,rfl,hn⟩
theorem Bs.lt {T:St} (j:Bs T) {i:Nat} (hi:i < 31):i+130 < T.length:=by have h:=j i hi;rw[List.getElem?_eq_getElem (show i < T_b0.length by rw[b0_len]; exact hi)]at h;exact q9 h
theorem c78 {d:Dc} (hF:m8 d) (hN:m3 d) (hk:∀ x∈d.2,x.1 < 5) (hn:d.2.length≤2) {T:St} (V:Bs T) {v0:AV} {u:List Ent} (hv:EL v0 u T) (a0:u.length+d.2.length≤14) (a2:j0 u) (Y:∀ e∈u,GJ e) :
 EvQ e7 8 [.ptr 132 0,.agg [v0],.str d.1,D4] T (fun a st'=>∃ es bad v pv,DL (d.2.map (·.1)) u v0 T a st' es bad v pv):=by
 have b1:161≤T.length:=V.lt (i:=30) (by decide);have hc:∀ {ρ:Nat→Nat},(∀ i,i < 31→ρ i=i+130)→∀ a,a < 31→T[a+130]?=(T_b0[a]?).map (Obj.rn ρ):=fun {ρ} h a F=>by rw[V a F];have O:=congrArg (fun l=>l[a]?) (b8C h);simp only[List.getElem?_map]at O;exact O.symm
 rcases hv with⟨rfl,rfl⟩|⟨o0,rfl,ho,a1⟩
 · obtain⟨f1,f2,f3,f4,f5,f6⟩:=hN;have hi:∀ a b,a < 31→b < 31→(fun i=>i+130) a=(fun i=>i+130) b→a=b:=fun a b _ _ e=>by dsimp only at e; omega
   have hl:∀ a,a < 31→(fun i=>i+130) a < T.length:=fun a F=>V.lt F
   have t:∀ i,i < 31→RN.rho T 31 (fun i=>i+130) i=i+130:=fun i h=>by unfold RN.rho; rw[if_pos h]
   have C:∀ i,31≤i→161≤RN.rho T 31 (fun i=>i+130) i:=fun i h=>by unfold RN.rho; rw[if_neg (by omega)]; omega
   obtain⟨T',E,Z,k1,k2⟩:=RN.Ev.framed hi hl a4f b0_len.symm (hc t) (ev_ofG f1);have e2:=t 2 (by decide);revert E k2 t C e2;generalize RN.rho T 31 (fun i=>i+130)=ρ;intro t C E k2 e2;have j:[AV.ptr 2 0,.agg [.nils],.str d.1,D4].map (AV.rn ρ)=[.ptr 132 0,.agg [.nils],.str d.1,D4]:=by simp only[List.map_cons,List.map_nil,AV.rn,D4,F8,S5,e2]
   rw[j]at E;refine EvQ.of_ev E ⟨eN d,bN d,(vN d).rn ρ,(pvN d).rn ρ,c2q t C k2 (w:=.nils) (v:=vN d) (pv:=pvN d) rfl rfl ⟨_,_,rfl⟩ (fun i hi=>a2a f2 hi) (fun h=>?_) (fun h=>?_) fun w es J=>?_⟩
   · rw[h,cond_false]at f3 f4 f5 f6;exact⟨f4,_,f3,f5,by rw[Nat.blt_eq]at f6; exact f6⟩
   · rw[h,cond_true]at f3 f4 f6;exact⟨f3,_,_,f4,Nat.le_of_ble_eq_true f6⟩
   · rcases J with J|⟨o,rfl,j,G⟩
     · exact .inl J
     · refine .inr ⟨o,rfl,?_,G⟩;rw[k1 o (q9 j) fun a F e=>by have e:a+130=o:=e; omega];exact j
 · have I:∀ i,i < 31→(fun i=>if i < 31 then i+130 else o0) i=i+130:=fun i h=>if_pos h
   have z:(fun i=>if i < 31 then i+130 else o0) 31=o0:=if_neg (by decide);revert I z;generalize (fun i=>if i < 31 then i+130 else o0)=q;intro I z;have B:∀ {a},a < 32→¬ a < 31→a=31:=fun j G=>by omega
   have hi:∀ a b,a < 32→b < 32→q a=q b→a=b:=fun a b F U e=>by
    by_cases j:a < 31
    · rw[I a j]at e;by_cases G:b < 31
      · rw[I b G]at e; omega
      · rw[B U G,z]at e; omega
    · rw[B F j,z]at e;by_cases G:b < 31
      · rw[I b G]at e; omega
      · rw[B F j,B U G]
   have hl:∀ a,a < 32→q a < T.length:=fun a F=>by
    by_cases j:a < 31
    · rw[I a j]; exact V.lt j
    · rw[B F j,z]; exact q9 ho
   have t:∀ i,i < 31→RN.rho T 32 q i=i+130:=fun i h=>by unfold RN.rho; rw[if_pos (by omega),I i h]
   have y:RN.rho T 32 q 31=o0:=by unfold RN.rho; rw[if_pos (by decide),z]
   have C:∀ i,31≤i→161≤RN.rho T 32 q i:=fun i h=>by
    by_cases j:i=31
    · rw[j,y]; exact a1
    · unfold RN.rho; rw[if_neg (by omega)]; omega
   obtain⟨S,W⟩:∃ S:St,S=T_b0++[.cells (l6 u)]:=⟨_,rfl⟩
   have lS:S.length=32:=by rw[W,List.length_append,b0_len]; rfl
   have N:∀ i,i < 31→S[i]?=T_b0[i]?:=fun i h=>by rw[W]; exact List.getElem?_append_left (by rw[b0_len]; exact h)
   have M:S[31]?=some (.cells (l6 u)):=by rw[W,List.getElem?_append_right (by rw[b0_len]; decide),b0_len]; rfl
   obtain⟨a,st',X,es,bad,v,pv,L⟩:=e6Q hF N M (Nat.le_refl 31) a0 a2 Y hk hn;obtain⟨T',E,Z,k1,k2⟩:=RN.Ev.framed hi hl a4f lS.symm (fun a F=>by
    by_cases j:a < 31
    · rw[I a j,hc t a j,N a j]
    · rw[B F j,z,ho,M,Option.map_some,Obj.rn,N4]) X
   have e2:=t 2 (by decide);revert E k2 t C e2 y;generalize RN.rho T 32 q=ρ;intro t y C E k2 e2;have j:[AV.ptr 2 0,.agg [.sl 31 0 u.length 4],.str d.1,D4].map (AV.rn ρ)=[.ptr 132 0,.agg [.sl o0 0 u.length 4],.str d.1,D4]:=by simp only[List.map_cons,List.map_nil,AV.rn,D4,F8,S5,e2,y]
   rw[j]at E;refine EvQ.of_ev E ⟨es,bad,v.rn ρ,pv.rn ρ,c2q t C k2 (w:=.sl 31 0 u.length 4) (by rw[AV.rn,y]) L.run L.ans L.base L.ok L.no fun w b0 J=>?_⟩;rcases J with J|⟨o,rfl,j,G⟩
   · exact .inl J
   · refine .inr ⟨o,rfl,?_,G⟩;by_cases e:o=o0
     · have O:=k2 31;rw[y,L.e0,Option.map_some,Obj.rn,N4,← ho,← e]at O;rw[O];exact j
     · rw[k1 o (q9 j) fun a F e'=>?_]
       · exact j
       by_cases h4:a < 31
       · rw[I a h4]at e'; omega
       · rw[B F h4,z]at e'; exact e e'.symm
end Go.Cb.CodeA
