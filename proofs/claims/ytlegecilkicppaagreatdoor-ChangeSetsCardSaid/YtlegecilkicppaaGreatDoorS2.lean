import Derived.Test.YtlegecilkicppaaGreatDoorSP
import Derived.Test.YtlegecilkicppaaGreatDoorX8
set_option maxRecDepth 100000
set_option linter.all false
namespace Go.Cb.CodeA
open Go Go.Cb Go.Cb.G
theorem cvt {P Q:Prop} (h:P) (e:P=Q):Q:=Eq.mp e h
theorem c5v {es:List Ent} {v:AV} {st:St} (h:EntsAt v es st) (hs:y8 es) (hl:es.length≤100000) {id:List Nat} {o:Option Ent} (i:O3 es id=o):Ev e7 177 [.agg [v],.str id] st (.tuple [.agg (o.getD Ent.none).row,.bool o.isSome]) st:=by subst i;exact((b22 h hs hl id).mono fun _ _ h=>⟨h.2,h.1⟩).to_ev
theorem b75 {f:Nat} {as:List AV} {r:AV} (h:Ev e7 f as T_b0 r T_b0) (ext:St) (i:as.map (AV.sh 31 ext.length)=as) (j:r.sh 31 ext.length=r):Ev e7 f as (T_b0++ext) r (T_b0++ext):=by
 have b:=Ev.sh P2 (L:=31) ext (show 31≤T_b0.length from Nat.le_of_eq (show 31=T_b0.length by kernel_rfl)) h;have e:shS 31 ext T_b0=T_b0++ext:=by have e1:shS 31 ext T_b0=T_b0++ext++[]:=(by kernel_rfl);rw[e1,List.append_nil]
 rw[i,j,e]at b;exact b
theorem b6D {es:List Ent} {x:Ent} (h:t8 x.id es=false):(x9 es x).length=es.length+1:=by have i:=a7b x.id es;rw[x9,if_neg (by rw[h]; decide)];simp;omega
theorem a9R {es:List Ent} {x:Ent} (h:t8 x.id es=true):(x9 es x).length=es.length:=by rw[x9,if_pos h,List.length_set]
theorem a0L {es:List Ent} {n o:Nat} {st:St} (hn:es.length=n) (h:st[o]?=some (.cells (g8 es))) (hs:y8 es) (hl:es.length≤100000) {id:List Nat} {r:Option Ent} (i:O3 es id=r):Ev e7 177 [.agg [.sl o 0 n 4],.str id] st (.tuple [.agg (r.getD Ent.none).row,.bool r.isSome]) st:=by subst hn;exact c5v (.inr ⟨o,rfl,h⟩) hs hl i
theorem b9U {es:List Ent} {n o k:Nat} {st:St} {x:Ent} (hn:es.length=n) (h:st[o]?=some (.cells (g8 es))) (hs:y8 es) (hl:es.length≤100000) (i:t8 x.id es=false) (j:st.length=k):Ev e7 17 [.agg [.sl o 0 n 4],.agg x.row] st (.agg [.sl (k+1) 0 (n+1) 4]) (st++[.dead,.cells (g8 (x9 es x))]):=by subst hn;subst j;have h:=(a9a (.inr ⟨o,rfl,h⟩) hs hl x).to_ev;rw[b0j i,b6D i]at h;exact h
theorem a9w {es:List Ent} {n o k:Nat} {st:St} {x:Ent} (hn:es.length=n) (h:st[o]?=some (.cells (g8 es))) (hs:y8 es) (hl:es.length≤100000) (i:t8 x.id es=true) (j:st.length=k):Ev e7 17 [.agg [.sl o 0 n 4],.agg x.row] st (.agg [.sl k 0 n 4]) (st++[.cells (g8 (x9 es x))]):=by subst hn;subst j;have h:=(a9a (.inr ⟨o,rfl,h⟩) hs hl x).to_ev;rw[a8B i,a9R i]at h;exact h
theorem b3d {es:List Ent} {n o k:Nat} {st:St} (hn:es.length=n+1) (h:st[o]?=some (.cells (g8 es))) (hs:y8 es) (hl:es.length≤100000) {id:List Nat} (j:t8 id es=true) (i:st.length=k):Ev e7 12 [.agg [.sl o 0 (n+1) 4],.str id] st (.agg [.sl (k+1) 0 n 4]) (st++[.dead,.cells (g8 (R1 es id))]):=by subst i;have h:=(a7X h hs hl j).to_ev;rw[hn]at h;exact h
def zz:List Nat:=[122,122]
def a7g:List Nat:=[80,101,114,115,111,110]
def c9k:List Nat:=[97,103,101]
def b97:List Nat:=[109,111,111,100]
def b4U:List Nat:=[110,97,109,101]
def c0c:List Nat:=[116,97,103,115]
def vI (m:Int):Val:=.mk 1 m [] [] []
def vS (X:List Nat):Val:=.mk 2 0 X [] []
def vM:Val:=.mk 4 0 [83,65,68] [] []
def vL (X:List Nat):Val:=.mk 5 0 [] [] [vS X]
def x1E (m:Int) (X:List Nat):Ent:=⟨a7g,zz,[c9k,b4U],[vI m,vS X]⟩
def x2E (X:List Nat):Ent:=⟨a7g,zz,[b97,b4U,c0c],[vM,vS X,vL X]⟩
def x3E (m:Int) (X:List Nat):Ent:=⟨a7g,zz,[c9k,b97,b4U,c0c],[vI m,vM,vS X,vL X]⟩
def e1 (es:List Ent) (m:Int) (X:List Nat):List Ent:=x9 es (x1E m X)
def e2 (es:List Ent) (m:Int) (X:List Nat):List Ent:=x9 (e1 es m X) (x2E X)
def e3 (es:List Ent) (m:Int) (X:List Nat):List Ent:=x9 (e2 es m X) (x3E m X)
abbrev vA (es:List Ent) (m:Int) (X:List Nat):Lt:=⟨es.length,m,X,g8 es,g8 (e1 es m X),[],[]⟩
abbrev vB (es:List Ent) (m:Int) (X:List Nat):Lt:=⟨es.length,m,X,g8 (e1 es m X),g8 (e2 es m X),g8 (e3 es m X),g8 es⟩
theorem b5l:∀ a∈idsL,eqN a zz=false:=by decide
theorem atA (v:Lt):((@p54 v))[31]?=some (.cells v.C):=by kernel_rfl
theorem d6W (v:Lt):((@p59 v))[31]?=some (.cells v.C):=by kernel_rfl
theorem e1g (v:Lt):((@p74 v))[103]?=some (.cells v.C2):=by kernel_rfl
theorem atB (v:Lt):((@a3j v))[31]?=some (.cells v.C):=by kernel_rfl
theorem e0K (v:Lt):((@b0c v))[31]?=some (.cells v.C):=by kernel_rfl
theorem d6Y (v:Lt):((@a2a v))[161]?=some (.cells v.C2):=by kernel_rfl
theorem d8u (v:Lt):((@a3q v))[161]?=some (.cells v.C2):=by kernel_rfl
theorem e0c (v:Lt):((@a9v v))[161]?=some (.cells v.C2):=by kernel_rfl
theorem d6z (v:Lt):((@a1X v))[193]?=some (.cells v.C3):=by kernel_rfl
theorem atD (v:Lt):((@W6 v))[193]?=some (.cells v.C3):=by kernel_rfl
theorem e1n (v:Lt):((@a2i v))[193]?=some (.cells v.C3):=by kernel_rfl
theorem e0C (v:Lt):(((@p544 v).set 230 ((@a7j v))))[193]?=some (.cells v.C3):=by kernel_rfl
theorem lnA (v:Lt):((@p59 v)).length=102:=by kernel_rfl
theorem lnB (v:Lt):((@b0c v)).length=161:=by kernel_rfl
theorem d8F (v:Lt):((@a9v v)).length=193:=by kernel_rfl
theorem lnD (v:Lt):(((@p544 v).set 230 ((@a7j v)))).length=252:=by kernel_rfl
theorem qnA (v:Lt) (hm:MOK v.m):@Q0 v:=cvt (b75 (a6I hm).to_ev (((@p3 v)).drop 31) (by kernel_rfl) (by kernel_rfl)) (by kernel_rfl)
theorem qnZ (v:Lt) (hm:MOK v.m):@Q28 v:=cvt (b75 (a6I hm).to_ev ((Q6).drop 31) (by kernel_rfl) (by kernel_rfl)) (by kernel_rfl)
theorem qnB (v:Lt) (hm:MOK v.m):@Q52 v:=cvt (b75 (a6I hm).to_ev (((@R4 v)).drop 31) (by kernel_rfl) (by kernel_rfl)) (by kernel_rfl)
section
variable {es:List Ent} {m:Int} {X:List Nat} (hs:y8 es) (hl:es.length≤12) (hi:∀ e∈es,e.id∈idsL)
include hi in
theorem c9v:O3 es zz=none:=b6L fun e i=>b5l _ (hi e i)
include hi in
theorem c5q:t8 (x1E m X).id es=false:=by rw[a3o,show(x1E m X).id=zz from rfl,c9v hi]; rfl
include hi in
theorem l1:(e1 es m X).length=es.length+1:=b6D (c5q hi)
theorem g1:O3 (e1 es m X) zz=some (x1E m X):=a1M (x1E m X) es
theorem g2:O3 (e2 es m X) zz=some (x2E X):=a1M (x2E X) _
theorem g3:O3 (e3 es m X) zz=some (x3E m X):=a1M (x3E m X) _
theorem hh1:t8 (x2E X).id (e1 es m X)=true:=by rw[a3o,show(x2E X).id=zz from rfl,g1]; rfl
theorem hh2:t8 (x3E m X).id (e2 es m X)=true:=by rw[a3o,show(x3E m X).id=zz from rfl,g2]; rfl
theorem hh3:t8 zz (e3 es m X)=true:=by rw[a3o,g3]; rfl
include hi in
theorem l2:(e2 es m X).length=es.length+1:=(a9R hh1).trans (l1 hi)
include hi in
theorem l3:(e3 es m X).length=es.length+1:=(a9R hh2).trans (l2 hi)
include hs in
theorem s1:y8 (e1 es m X):=Y6 hs _
include hs in
theorem s2:y8 (e2 es m X):=Y6 (s1 hs) _
include hs in
theorem s3:y8 (e3 es m X):=Y6 (s2 hs) _
include hi in
theorem d0y:R1 (e3 es m X) zz=es:=by rw[show zz=(x3E m X).id from rfl,e3,a1N,show(x3E m X).id=(x2E X).id from rfl,e2,a1N,show(x2E X).id=(x1E m X).id from rfl,e1,a1N];exact a6S fun y i=>b5l _ (hi y i)
include hs hl hi in
theorem qA:@Q7 (vA es m X):=cvt (a0L (es:=es) rfl (atA (vA es m X)) hs (by omega) (c9v hi)) (by kernel_rfl)
include hs hl hi in
theorem qAw:@Q8 (vA es m X):=cvt (b9U (es:=es) (x:=x1E m X) rfl (d6W (vA es m X)) hs (by omega) (c5q hi) (lnA (vA es m X))) (by kernel_rfl)
include hs hl hi in
theorem qA2:@Q10 (vA es m X):=cvt (a0L (es:=e1 es m X) (l1 hi) (e1g (vA es m X)) (s1 hs) (by rw[l1 hi]; omega) g1) (by kernel_rfl)
include hs hl hi in
theorem qB:@Q60 (vB es m X):=cvt (a0L (es:=e1 es m X) (l1 hi) (atB (vB es m X)) (s1 hs) (by rw[l1 hi]; omega) g1) (by kernel_rfl)
include hs hl hi in
theorem qBw:@Q61 (vB es m X):=cvt (a9w (es:=e1 es m X) (x:=x2E X) (l1 hi) (e0K (vB es m X)) (s1 hs) (by rw[l1 hi]; omega) hh1 (lnB (vB es m X))) (by kernel_rfl)
include hs hl hi in
theorem qB2:@Q63 (vB es m X):=cvt (a0L (es:=e2 es m X) (l2 hi) (d6Y (vB es m X)) (s2 hs) (by rw[l2 hi]; omega) g2) (by kernel_rfl)
include hs hl hi in
theorem qB3:@Q74 (vB es m X):=cvt (a0L (es:=e2 es m X) (l2 hi) (d8u (vB es m X)) (s2 hs) (by rw[l2 hi]; omega) g2) (by kernel_rfl)
include hs hl hi in
theorem qBx:@Q75 (vB es m X):=cvt (a9w (es:=e2 es m X) (x:=x3E m X) (l2 hi) (e0c (vB es m X)) (s2 hs) (by rw[l2 hi]; omega) hh2 (d8F (vB es m X))) (by kernel_rfl)
include hs hl hi in
theorem qB4:@Q77 (vB es m X):=cvt (a0L (es:=e3 es m X) (l3 hi) (d6z (vB es m X)) (s3 hs) (by rw[l3 hi]; omega) g3) (by kernel_rfl)
include hs hl hi in
theorem qD:@Q96 (vB es m X):=cvt (a0L (es:=e3 es m X) (l3 hi) (atD (vB es m X)) (s3 hs) (by rw[l3 hi]; omega) g3) (by kernel_rfl)
include hs hl hi in
theorem qD2:@Q98 (vB es m X):=cvt (a0L (es:=e3 es m X) (l3 hi) (e1n (vB es m X)) (s3 hs) (by rw[l3 hi]; omega) g3) (by kernel_rfl)
include hs hl hi in
theorem qDo:@b2B (vB es m X):=by have h:=b3d (es:=e3 es m X) (l3 hi) (e0C (vB es m X)) (s3 hs) (by rw[l3 hi]; omega) hh3 (lnD (vB es m X));rw[d0y hi]at h;exact cvt h (by kernel_rfl)
include hs hl hi in
theorem zA (hm:MOK m):Ev e7 9 [k0,(@k49 (vA es m X)),W.txt1,(@p14 (vA es m X))] (@a6M (vA es m X)) (@b9n (vA es m X)) (((@p150 (vA es m X)).set 83 ((@a0q (vA es m X)))).set 84 ((@M2 (vA es m X)))):=doA (v:=(vA es m X)) hm hl (qnA _ hm) (qA hs hl hi) (qAw hs hl hi) (qA2 hs hl hi)
theorem zZ (hm:MOK m):Ev e7 9 [k0,k99,W.txt1,(@p14 (vA [] m X))] T_b0 (@b8B (vA [] m X)) (((@p252 (vA [] m X)).set 82 ((@a0b (vA [] m X)))).set 83 ((@M2 (vA [] m X)))):=doZ (v:=vA [] m X) hm (Nat.zero_le _) (qnZ _ hm)
include hs hl hi in
theorem zB (hm:MOK m):Ev e7 9 (@c6d (vB es m X)) (@a6M (vB es m X)) (@b8G (vB es m X)) (@a0g (vB es m X)):=doB (v:=(vB es m X)) hm hl (qnB _ hm) (qB hs hl hi) (qBw hs hl hi) (qB2 hs hl hi) (qB3 hs hl hi) (qBx hs hl hi) (qB4 hs hl hi)
include hs hl hi in
theorem zD (hm:MOK m):Ev e7 9 (@d0R (vB es m X)) (@a0g (vB es m X)) (@b8O (vB es m X)) (((@p563 (vB es m X)).set 230 ((@Z5 (vB es m X)))).set 231 (a2g)):=doD (v:=(vB es m X)) hm hl (qD hs hl hi) (qD2 hs hl hi) (qDo hs hl hi)
end
end Go.Cb.CodeA
