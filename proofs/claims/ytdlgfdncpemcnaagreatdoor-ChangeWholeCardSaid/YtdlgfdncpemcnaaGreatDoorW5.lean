import Derived.Test.YtdlgfdncpemcnaaGreatDoorW4
set_option maxRecDepth 100000
set_option linter.all false
namespace Go.Cb.CodeA
open Go Go.Cb Go.Cb.G
theorem U9 {es:List Ent} {n o:Nat} {st:St} (i:es.length=n) (h:st[o]?=some (.cells (e9 es))) (hs:C9 es) (hl:es.length≤100000) {id:List Nat} {r:Option Ent} (hg:F8 es id=r):Ev e8 177 [.agg [.sl o 0 n 4],.str id] st (.tuple [.agg (r.getD Ent.none).row,.bool r.isSome]) st:=by subst i;exact d43 (.inr ⟨o,rfl,h⟩) hs hl hg
theorem b7F {es:List Ent} {n o k:Nat} {st:St} {x:Ent} (j:es.length=n) (h:st[o]?=some (.cells (e9 es))) (hs:C9 es) (hl:es.length≤100000) (i:D4 x.id es=false) (hk:st.length=k):Ev e8 18 [.agg [.sl o 0 n 4],.agg x.row] st (.agg [.sl (k+1) 0 (n+1) 4]) (st++[.dead,.cells (e9 (i8 es x))]):=by subst j;subst hk;have h:=(b0z (.inr ⟨o,rfl,h⟩) hs hl x).to_ev;rw[a9o i,b5m i]at h;exact h
theorem b8M {es:List Ent} {n o k:Nat} {st:St} {x:Ent} (j:es.length=n) (h:st[o]?=some (.cells (e9 es))) (hs:C9 es) (hl:es.length≤100000) (i:D4 x.id es=true) (hk:st.length=k):Ev e8 18 [.agg [.sl o 0 n 4],.agg x.row] st (.agg [.sl k 0 n 4]) (st++[.cells (e9 (i8 es x))]):=by subst j;subst hk;have h:=(b0z (.inr ⟨o,rfl,h⟩) hs hl x).to_ev;rw[a9M i,a4q i]at h;exact h
def vE (es:List Ent) (m:Int) (X:List Nat) (C3:List AV) (K L K1 L1 K2 L2:List (List AV)):Lt:=⟨es.length,m,X,e9 es,e9 (i8 es (x1E m)),C3,K,L,K1,L1,K2,L2⟩
theorem a2q:∀ a∈idsL,eqN a new=false∧eqN a a3U=false∧eqN new a=false:=by decide
section
variable {es:List Ent} {m:Int} {X:List Nat} (C3:List AV) (K L K1 L1 K2 L2:List (List AV)) (hs:C9 es) (hl:es.length≤12) (hi:∀ e∈es,e.id∈idsL) (hX:X∈idsL)
include hi in
theorem c0C:F8 es new=none:=a8h fun e i=>(a2q _ (hi e i)).1
include hi in
theorem c0t:F8 es a3U=none:=a8h fun e i=>(a2q _ (hi e i)).2.1
include hi in
theorem c0p:D4 (x1E m).id es=false:=by rw[a8H,show(x1E m).id=new from rfl,c0C hi]; rfl
include hi in
theorem J0:(i8 es (x1E m)).length=es.length+1:=b5m (c0p hi)
include hX in
theorem a6h:F8 (i8 es (x1E m)) X=F8 es X:=U6 _ (a2q _ hX).2.2 es
include hs hl hi in
theorem b30:Q9 (vE es m X C3 K L K1 L1 K2 L2):=cvt (U9 (es:=es) rfl (f6B (vE es m X C3 K L K1 L1 K2 L2)) hs (by omega) (c0C hi)) (by kernel_rfl)
include hs hl hi in
theorem b2N:Q10 (vE es m X C3 K L K1 L1 K2 L2):=cvt (b7F (es:=es) (x:=x1E m) rfl (f6v (vE es m X C3 K L K1 L1 K2 L2)) hs (by omega) (c0p hi) (e8a (vE es m X C3 K L K1 L1 K2 L2))) (by kernel_rfl)
include hs hl hi in
theorem b4u:Q12 (vE es m X C3 K L K1 L1 K2 L2):=cvt (U9 (es:=i8 es (x1E m)) (J0 hi) (f9Q (vE es m X C3 K L K1 L1 K2 L2)) (r6 hs _) (by rw[J0 hi]; omega) (a3L (x1E m) es)) (by kernel_rfl)
include hs hl hi in
theorem b2G:Q51 (vE es m X C3 K L K1 L1 K2 L2):=cvt (U9 (es:=i8 es (x1E m)) (J0 hi) (e2D (vE es m X C3 K L K1 L1 K2 L2)) (r6 hs _) (by rw[J0 hi]; omega) ((U6 (x1E m) (show eqN new a3U=false by decide) es).trans (c0t hi))) (by kernel_rfl)
include hs hl hi hX in
theorem e6f (hg:F8 es X=none):Q47 (vE es m X C3 K L K1 L1 K2 L2):=cvt (U9 (es:=i8 es (x1E m)) (J0 hi) (a8D (vE es m X C3 K L K1 L1 K2 L2)) (r6 hs _) (by rw[J0 hi]; omega) ((a6h hX).trans hg)) (by kernel_rfl)
end
theorem q_C {es:List Ent} {m:Int} {X:List Nat} {ks:List (List Nat)} {ls:List Val} (hs:C9 es) (hl:es.length≤12) (hi:∀ e∈es,e.id∈idsL) (hX:X∈idsL) (hg:F8 es X=some ⟨[67,97,116],X,ks,ls⟩):Q56 (vE es m X [] (ks.map m3) (ls.map Val.row) [] [] [] []):=cvt (U9 (es:=i8 es (x1E m)) (J0 hi) (a8D (vE es m X [] (ks.map m3) (ls.map Val.row) [] [] [] [])) (r6 hs _) (by rw[J0 hi]; omega) ((a6h hX).trans hg)) (by kernel_rfl)
theorem q_D {es:List Ent} {m:Int} {X:List Nat} {ks:List (List Nat)} {ls:List Val} (hs:C9 es) (hl:es.length≤12) (hi:∀ e∈es,e.id∈idsL) (hX:X∈idsL) (hg:F8 es X=some ⟨[68,111,103],X,ks,ls⟩):Q58 (vE es m X [] (ks.map m3) (ls.map Val.row) [] [] [] []):=cvt (U9 (es:=i8 es (x1E m)) (J0 hi) (a8D (vE es m X [] (ks.map m3) (ls.map Val.row) [] [] [] [])) (r6 hs _) (by rw[J0 hi]; omega) ((a6h hX).trans hg)) (by kernel_rfl)
theorem e8I:∀ ls:List Val,∃ R:Nat→Rw,ls.map Val.row=a6B R ls.length:=fun ls=>by
 have h:∀ v:Val,∃ r:Rw,v.row=r.row:=fun v=>by obtain⟨k,n,s,xs,ys,e⟩:=v.row_cells;exact⟨⟨k,n,s,xs,ys⟩,e⟩
 refine⟨fun i=>if hi:i < ls.length then Classical.choose (h ls[i])else⟨0,0,[],[],[]⟩,?_⟩;unfold a6B;refine List.ext_getElem (by simp) fun i j l=>?_
 have hi:i < ls.length:=by simpa using j
 simp only[List.getElem_map,List.getElem_range,dif_pos hi];exact Classical.choose_spec (h ls[i])
section
variable {es:List Ent} {m:Int} {X:List Nat} {ks:List (List Nat)} {ls:List Val} {R:Nat→Rw} (hs:C9 es) (hl:es.length≤12) (hi:∀ e∈es,e.id∈idsL) (hX:X∈idsL) (hR:ls.map Val.row=a6B R ks.length) (hk:ks.Sublist personK) (hg:F8 es X=some ⟨l7,X,ks,ls⟩)
include hR in
theorem b1E:pu2 m R ks=((x2E m X ⟨l7,X,ks,ls⟩).ks,(x2E m X ⟨l7,X,ks,ls⟩).ls.map Val.row):=by
 have i:pu1 R ks=((P6 X0 vT ks ls).1,(P6 X0 vT ks ls).2.map Val.row):=by unfold pu1;rw[← hR,show e0J=vT.row by rw[vT,Val.row0]; rfl,a5y]
 unfold pu2;rw[i,show e3V m=(vI m).row by rw[vI,Val.row0]; rfl,a5y];rfl
include hk in
theorem g5h:Q27 (mkV es.length m X (e9 es) (e9 (i8 es (x1E m))) (e9 (i8 (i8 es (x1E m)) (x2E m X ⟨l7,X,ks,ls⟩))) R ks):=ev_ofG (k:=400) (List.map_inj_left.1 (kQ0 _ m X _ _ _ R) ks (a1a hk))
include hk in
theorem g7Q:Q28 (mkV es.length m X (e9 es) (e9 (i8 es (x1E m))) (e9 (i8 (i8 es (x1E m)) (x2E m X ⟨l7,X,ks,ls⟩))) R ks):=ev_ofG (k:=400) (List.map_inj_left.1 (kQ1 _ m X _ _ _ R) ks (a1a hk))
include hk in
theorem g7Y:Q35 (mkV es.length m X (e9 es) (e9 (i8 es (x1E m))) (e9 (i8 (i8 es (x1E m)) (x2E m X ⟨l7,X,ks,ls⟩))) R ks):=ev_ofG (k:=400) (List.map_inj_left.1 (kQ2 _ m X _ _ _ R) ks (a1a hk))
include hs hl hi hX hR hg in
theorem g8e:Q26 (mkV es.length m X (e9 es) (e9 (i8 es (x1E m))) (e9 (i8 (i8 es (x1E m)) (x2E m X ⟨l7,X,ks,ls⟩))) R ks):=by have h:=U9 (es:=i8 es (x1E m)) (J0 hi) (a8D (mkV es.length m X (e9 es) (e9 (i8 es (x1E m))) (e9 (i8 (i8 es (x1E m)) (x2E m X ⟨l7,X,ks,ls⟩))) R ks)) (r6 hs _) (by rw[J0 hi]; omega) ((a6h hX).trans hg);simp only[Option.getD_some,Ent.row,hR]at h;exact cvt h (by kernel_rfl)
include hX hg in
theorem t_X:D4 (x2E m X ⟨l7,X,ks,ls⟩).id (i8 es (x1E m))=true:=by rw[a8H,show(x2E m X ⟨l7,X,ks,ls⟩).id=X from rfl,a6h hX,hg];rfl
include hs hl hi hX hR hg in
theorem g4b:Q29 (mkV es.length m X (e9 es) (e9 (i8 es (x1E m))) (e9 (i8 (i8 es (x1E m)) (x2E m X ⟨l7,X,ks,ls⟩))) R ks):=by have h:=b8M (es:=i8 es (x1E m)) (x:=x2E m X ⟨l7,X,ks,ls⟩) (J0 hi) (f5c (mkV es.length m X (e9 es) (e9 (i8 es (x1E m))) (e9 (i8 (i8 es (x1E m)) (x2E m X ⟨l7,X,ks,ls⟩))) R ks)) (r6 hs _) (by rw[J0 hi]; omega) (t_X hX hg) (e2Z (mkV es.length m X (e9 es) (e9 (i8 es (x1E m))) (e9 (i8 (i8 es (x1E m)) (x2E m X ⟨l7,X,ks,ls⟩))) R ks));have e:=b1E (m:=m) (X:=X) hR;rw[show(x2E m X ⟨l7,X,ks,ls⟩).row=[.str l7,.str X,.list false ((x2E m X ⟨l7,X,ks,ls⟩).ks.map m3),.list false ((x2E m X ⟨l7,X,ks,ls⟩).ls.map Val.row)]from rfl,show(x2E m X ⟨l7,X,ks,ls⟩).ks=(pu2 m R ks).1 by rw[e],show(x2E m X ⟨l7,X,ks,ls⟩).ls.map Val.row=(pu2 m R ks).2 by rw[e]]at h;exact cvt h (by kernel_rfl)
include hs hl hi hX hR hg in
theorem f6F:Q31 (mkV es.length m X (e9 es) (e9 (i8 es (x1E m))) (e9 (i8 (i8 es (x1E m)) (x2E m X ⟨l7,X,ks,ls⟩))) R ks):=by have i:=t_X (m:=m) hX hg;have h:=U9 (es:=i8 (i8 es (x1E m)) (x2E m X ⟨l7,X,ks,ls⟩)) ((a4q i).trans (J0 hi)) (e0l (mkV es.length m X (e9 es) (e9 (i8 es (x1E m))) (e9 (i8 (i8 es (x1E m)) (x2E m X ⟨l7,X,ks,ls⟩))) R ks)) (r6 (r6 hs _) _) (by rw[a4q i,J0 hi]; omega) (a3L (x2E m X ⟨l7,X,ks,ls⟩) _);have e:=b1E (m:=m) (X:=X) hR;rw[Option.getD_some,show(x2E m X ⟨l7,X,ks,ls⟩).row=[.str l7,.str X,.list false ((x2E m X ⟨l7,X,ks,ls⟩).ks.map m3),.list false ((x2E m X ⟨l7,X,ks,ls⟩).ls.map Val.row)]from rfl,show(x2E m X ⟨l7,X,ks,ls⟩).ks=(pu2 m R ks).1 by rw[e],show(x2E m X ⟨l7,X,ks,ls⟩).ls.map Val.row=(pu2 m R ks).2 by rw[e]]at h;exact cvt h (by kernel_rfl)
include hs hl hi hX hg in
theorem g3E:Q42 (mkV es.length m X (e9 es) (e9 (i8 es (x1E m))) (e9 (i8 (i8 es (x1E m)) (x2E m X ⟨l7,X,ks,ls⟩))) R ks):=by have i:=t_X (m:=m) hX hg;exact cvt (U9 (es:=i8 (i8 es (x1E m)) (x2E m X ⟨l7,X,ks,ls⟩)) ((a4q i).trans (J0 hi)) (d4n (mkV es.length m X (e9 es) (e9 (i8 es (x1E m))) (e9 (i8 (i8 es (x1E m)) (x2E m X ⟨l7,X,ks,ls⟩))) R ks)) (r6 (r6 hs _) _) (by rw[a4q i,J0 hi]; omega) ((U6 (x2E m X ⟨l7,X,ks,ls⟩) (show eqN X a3U=false from(a2q _ hX).2.1) _).trans ((U6 (x1E m) (show eqN new a3U=false by decide) es).trans (c0t hi)))) (by kernel_rfl)
end
end Go.Cb.CodeA
