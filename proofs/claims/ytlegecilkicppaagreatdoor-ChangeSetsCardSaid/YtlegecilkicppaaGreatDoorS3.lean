import Derived.Test.YtlegecilkicppaaGreatDoorS2
import Derived.Test.YtlegecilkicppaaGreatDoorMaw
set_option maxRecDepth 100000
set_option linter.all false
namespace Go.Cb.CodeA
open Go Go.Cb Go.Cb.G
theorem a6X (L d:Nat):∀ ks:List (List Nat),Y8 L d (ks.map r6)=ks.map r6
 | []=>rfl
 | k::ks=>by rw[AG,Y8,a6X L d ks]; rfl
mutual
theorem Val.row_sh (L d:Nat):∀ v:Val,I2 L d v.row=v.row
 | .mk k n s ks ls=>by rw[Val.row]; simp only[I2,AV.sh,a6X,Val.rows_sh L d ls]
theorem Val.rows_sh (L d:Nat):∀ vs:List Val,Y8 L d (Val.rows vs)=Val.rows vs
 | []=>by simp only[Val.rows,Y8]
 | v::vs=>by simp only[Val.rows,Y8,Val.row_sh L d v,Val.rows_sh L d vs]
end
theorem c5D (L d:Nat) (e:Ent):e.row.map (AV.sh L d)=e.row:=by unfold Ent.row;simp only[AG,AL,AV.sh,a6X];rw[← Val.rows_map,Val.rows_sh]
theorem F8 (L d:Nat):∀ es:List Ent,(g8 es).map (AV.sh L d)=g8 es
 | []=>rfl
 | e::es=>by rw[show g8 (e::es)=e.row++g8 es from rfl,AT,c5D,F8 L d es]
def T_bb:St:=T_aw++T_b0.map (Obj.sh 0 130)
theorem c1Q:Ev tbl 5 [] T_aw (R_b0.sh 0 130) T_bb:=by have h:=Ev.sh T5 (L:=0) T_aw (Nat.zero_le _) (ev_ofG d9J);rw[show T_aw.length=130 by kernel_rfl,show shS 0 T_aw T_b0=T_bb by kernel_rfl,show shS 0 T_aw []=T_aw by kernel_rfl]at h;exact h
theorem d25 (ext:St) (C:List AV):shS 161 ext (shS 0 T_aw (T_b0++[.cells C]))=T_bb++(ext++[.cells ((C.map (AV.sh 0 130)).map (AV.sh 161 ext.length))]):=by kernel_rfl
theorem a2t:T_aw.length=130:=by kernel_rfl
def Z3 (m:Int) (X:List Nat):AV:=.agg [.int .u8 6,.int .i64 0,.str [],.list false [[.str [110]],[.str [115]]],.list false [[.int .u8 1,.int .i64 m,.str [],.list false [],.list false []],[.int .u8 2,.int .i64 0,.str X,.list false [],.list false []]]]
def a8W (s:AV) (m:Int) (X:List Nat):AV:=(.tuple [(.agg [s]),(.agg [(.int .i64 0),(.int .u8 6),(.int .i64 0),(.str []),(.list false [[(.str [99,114,101,97,116,101,80,101,114,115,111,110])]]),(.list false [[(.int .u8 6),(.int .i64 0),(.str []),(.list false [[(.str [110,97,109,101])],[(.str [97,103,101])],[(.str [109,111,111,100])]]),(.list false [[(.int .u8 2),(.int .i64 0),(.str X),(.list false []),(.list false [])],[(.int .u8 1),(.int .i64 m),(.str []),(.list false []),(.list false [])],[(.int .u8 0),(.int .i64 0),(.str []),(.list false []),(.list false [])]])]]),(.list false [])])])
def b0x (s:AV) (m:Int) (X:List Nat):AV:=(.tuple [(.agg [s]),(.agg [(.int .i64 0),(.int .u8 6),(.int .i64 0),(.str []),(.list false [[(.str [117,112,100,97,116,101,80,101,114,115,111,110])],[(.str [120])]]),(.list false [[(.int .u8 6),(.int .i64 0),(.str []),(.list false [[(.str [97,103,101])],[(.str [109,111,111,100])],[(.str [116,97,103,115])]]),(.list false [[(.int .u8 0),(.int .i64 0),(.str []),(.list false []),(.list false [])],[(.int .u8 4),(.int .i64 0),(.str [83,65,68]),(.list false []),(.list false [])],[(.int .u8 5),(.int .i64 0),(.str []),(.list false []),(.list false [[(.int .u8 2),(.int .i64 0),(.str X),(.list false []),(.list false [])]])]])],[(.int .u8 6),(.int .i64 0),(.str []),(.list false [[(.str [97,103,101])]]),(.list false [[(.int .u8 1),(.int .i64 m),(.str []),(.list false []),(.list false [])]])]]),(.list false [])])])
def a8V (s:AV):AV:=(.tuple [(.agg [s]),(.agg [(.int .i64 0),(.int .u8 6),(.int .i64 0),(.str []),(.list false [[(.str [100,101,108,101,116,101,80,101,114,115,111,110])]]),(.list false [[(.int .u8 6),(.int .i64 0),(.str []),(.list false [[(.str [109,111,111,100])]]),(.list false [[(.int .u8 4),(.int .i64 0),(.str [83,65,68]),(.list false []),(.list false [])]])]]),(.list false [])])])
def FA (v:Lt):St:=(((@p150 v).set 83 ((@a0q v))).set 84 ((@M2 v)))
def FZ (v:Lt):St:=(((@p252 v).set 82 ((@a0b v))).set 83 ((@M2 v)))
def F3 (v:Lt):St:=(((@p563 v).set 230 ((@Z5 v))).set 231 (a2g))
def aA (v:Lt):St:=((FA v).drop 31).take 72
def bA (v:Lt):St:=(FA v).drop 104
def mvA (v:Lt) (st:St):St:=shS 104 (bA v) (shS 31 (aA v) st)
theorem d3P (v w:Lt):mvA v (T_b0++[.cells w.C])=FA ⟨v.n,v.m,v.X,v.C.map (AV.sh 104 23),(w.C.map (AV.sh 31 72)).map (AV.sh 104 23),v.C3,v.C4⟩:=by kernel_rfl
theorem leA (v w:Lt):Nat.ble 104 (shS 31 (aA v) (T_b0++[.cells w.C])).length=true:=by kernel_rfl
theorem lfA (v w:Lt):Nat.ble 104 (shS 31 (aA v) (@F2 w)).length=true:=by kernel_rfl
theorem p2A (v w:Lt):(mvA v (F3 w))[288]?=some (.cells ((w.C3.map (AV.sh 31 72)).map (AV.sh 104 23))):=by kernel_rfl
theorem p3A (v w:Lt):(mvA v (F3 w))[348]?=some (.cells ((w.C4.map (AV.sh 31 72)).map (AV.sh 104 23))):=by kernel_rfl
theorem lbA (v w:Lt):Nat.ble 31 (mvA v (@F2 w)).length=true∧Nat.ble 31 (mvA v (F3 w)).length=true:=⟨by kernel_rfl,by kernel_rfl⟩
theorem lcA (v:Lt):Nat.ble 31 (FA v).length=true:=by kernel_rfl
def aZ (v:Lt):St:=((FZ v).drop 31).take 70
def bZ (v:Lt):St:=(FZ v).drop 102
def mvZ (v:Lt) (st:St):St:=shS 102 (bZ v) (shS 31 (aZ v) st)
theorem d35 {m:Int} {X:List Nat}:mvZ (vA [] m X) (T_b0++[.cells (g8 (e1 [] m X))])=FZ (vA [] m X):=by kernel_rfl
theorem leZ (v w:Lt):Nat.ble 102 (shS 31 (aZ v) (T_b0++[.cells w.C])).length=true:=by kernel_rfl
theorem lfZ (v w:Lt):Nat.ble 102 (shS 31 (aZ v) (@F2 w)).length=true:=by kernel_rfl
theorem p2Z (v w:Lt):(mvZ v (F3 w))[286]?=some (.cells ((w.C3.map (AV.sh 31 70)).map (AV.sh 102 23))):=by kernel_rfl
theorem p3Z (v w:Lt):(mvZ v (F3 w))[346]?=some (.cells ((w.C4.map (AV.sh 31 70)).map (AV.sh 102 23))):=by kernel_rfl
theorem p1A (v w:Lt):(mvA v (F3 w))[31]?=some (.cells (v.C.map (AV.sh 104 23))):=by kernel_rfl
theorem l31 (C:List AV):Nat.ble 31 (T_b0++[Cb.Obj.cells C]).length=true:=by kernel_rfl
theorem l32 (w:Lt):Nat.ble 31 (@F2 w).length=true:=by kernel_rfl
section
variable {es:List Ent} {m:Int} {X:List Nat} (hs:y8 es) (hl:es.length≤12) (hi:∀ e∈es,e.id∈idsL)
theorem d3N:mvA (vA es m X) (T_b0++[.cells (g8 (e1 es m X))])=FA (vA es m X):=by have h:=d3P (vA es m X) (vB es m X);rw[show(vA es m X).C.map (AV.sh 104 23)=(vA es m X).C from F8 _ _ es,show((vB es m X).C.map (AV.sh 31 72)).map (AV.sh 104 23)=(vA es m X).C2 from by rw[show(vB es m X).C=g8 (e1 es m X)from rfl,F8,F8]; rfl]at h;exact cvt h (by kernel_rfl)
include hs hl hi in
theorem d5n (hm:MOK m):Ev e7 9 [.ptr 2 0,.agg [.sl 31 0 es.length 4],W.txt1,Z3 m X] (T_b0++[.cells (g8 es)]) (a8W (.sl 103 0 (es.length+1) 4) m X) (FA (vA es m X)):=cvt (zA (X:=X) hs hl hi hm) (by kernel_rfl)
include hs hl hi in
theorem d22 (hm:MOK m):Ev e7 9 [.ptr 2 0,.agg [.sl 103 0 (es.length+1) 4],W.txt2,Z3 m X] (FA (vA es m X)) (b0x (.sl 288 0 (es.length+1) 4) m X) (mvA (vA es m X) (@F2 (vB es m X))):=by have j:Ev e7 9 _ (T_b0++[.cells (g8 (e1 es m X))]) _ (@F2 (vB es m X)):=zB (es:=es) (X:=X) hs hl hi hm;have l:=Ev.sh P2 (L:=31) (aA (vA es m X)) (Nat.le_of_ble_eq_true (l31 _)) j;have i:=Ev.sh P2 (L:=104) (bA (vA es m X)) (Nat.le_of_ble_eq_true (leA (vA es m X) (vB es m X))) l;have e:=d3N (es:=es) (m:=m) (X:=X);unfold mvA at e;rw[show(vB es m X).C=g8 (e1 es m X)from rfl,e]at i;exact cvt i (by kernel_rfl)
include hs hl hi in
theorem d4j (hm:MOK m):Ev e7 9 [.ptr 2 0,.agg [.sl 288 0 (es.length+1) 4],W.txt3,Z3 m X] (mvA (vA es m X) (@F2 (vB es m X))) (a8V (.sl 348 0 es.length 4)) (mvA (vA es m X) (F3 (vB es m X))):=by have i:Ev e7 9 _ (@F2 (vB es m X)) _ (F3 (vB es m X)):=zD (es:=es) (m:=m) (X:=X) hs hl hi hm;have j:=Ev.sh P2 (L:=31) (aA (vA es m X)) (Nat.le_of_ble_eq_true (l32 (vB es m X))) i;have l:=Ev.sh P2 (L:=104) (bA (vA es m X)) (Nat.le_of_ble_eq_true (lfA (vA es m X) (vB es m X))) j;exact cvt l (by kernel_rfl)
theorem d4n (hm:MOK m):Ev e7 9 [.ptr 2 0,.agg [.nils],W.txt1,Z3 m X] T_b0 (a8W (.sl 101 0 1 4) m X) (FZ (vA [] m X)):=cvt (zZ (X:=X) hm) (by kernel_rfl)
theorem d2F (hm:MOK m):Ev e7 9 [.ptr 2 0,.agg [.sl 101 0 1 4],W.txt2,Z3 m X] (FZ (vA [] m X)) (b0x (.sl 286 0 1 4) m X) (mvZ (vA [] m X) (@F2 (vB [] m X))):=by have j:Ev e7 9 _ (T_b0++[.cells (g8 (e1 [] m X))]) _ (@F2 (vB [] m X)):=zB (es:=[]) (X:=X) List.Pairwise.nil (Nat.zero_le _) (fun _ h=>by cases h) hm;have l:=Ev.sh P2 (L:=31) (aZ (vA [] m X)) (Nat.le_of_ble_eq_true (l31 _)) j;have i:=Ev.sh P2 (L:=102) (bZ (vA [] m X)) (Nat.le_of_ble_eq_true (leZ (vA [] m X) (vB [] m X))) l;have e:=d35 (m:=m) (X:=X);unfold mvZ at e;rw[show(vB [] m X).C=g8 (e1 [] m X)from rfl,e]at i;exact cvt i (by kernel_rfl)
theorem d5e (hm:MOK m):Ev e7 9 [.ptr 2 0,.agg [.sl 286 0 1 4],W.txt3,Z3 m X] (mvZ (vA [] m X) (@F2 (vB [] m X))) (a8V (.sl 346 0 0 4)) (mvZ (vA [] m X) (F3 (vB [] m X))):=by have i:Ev e7 9 _ (@F2 (vB [] m X)) _ (F3 (vB [] m X)):=zD (es:=[]) (m:=m) (X:=X) List.Pairwise.nil (Nat.zero_le _) (fun _ h=>by cases h) hm;have j:=Ev.sh P2 (L:=31) (aZ (vA [] m X)) (Nat.le_of_ble_eq_true (l32 (vB [] m X))) i;have l:=Ev.sh P2 (L:=102) (bZ (vA [] m X)) (Nat.le_of_ble_eq_true (lfZ (vA [] m X) (vB [] m X))) j;exact cvt l (by kernel_rfl)
end
theorem b9D {f:Nat} {as:List AV} {st:St} {r:AV} {st':St} (ext:St) (hl:Nat.ble 31 st.length=true) (h:Ev e7 f as st r st'):Ev tbl f ((as.map (AV.sh 0 130)).map (AV.sh 161 ext.length)) (shS 161 ext (shS 0 T_aw st)) ((r.sh 0 130).sh 161 ext.length) (shS 161 ext (shS 0 T_aw st')):=by have i:=Ev.sh T5 (L:=0) T_aw (Nat.zero_le _) (Ev.ofQ h);rw[a2t]at i;exact Ev.sh T5 (L:=161) ext (by rw[a4R (Nat.zero_le _),a2t]; have:=Nat.le_of_ble_eq_true hl; omega) i
theorem a5E {st:St} {o:Nat} {es:List Ent} (ext:St) (hl:Nat.ble 31 st.length=true) (h:st[o]?=some (.cells (g8 es))):(shS 161 ext (shS 0 T_aw st))[shN 161 ext.length (shN 0 130 o)]?=some (.cells (g8 es)):=by have g1:=Q3 (L:=0) (ext:=T_aw) (st:=st) (Nat.zero_le _) o;rw[h,a2t,AN,show Obj.sh 0 130 (.cells (g8 es))=.cells (g8 es)by rw[Obj.sh,F8]]at g1;have g2:=Q3 (L:=161) (ext:=ext) (st:=shS 0 T_aw st) (by rw[a4R (Nat.zero_le _),a2t]; have:=Nat.le_of_ble_eq_true hl; omega) (shN 0 130 o);rw[g1,AN,show Obj.sh 161 ext.length (.cells (g8 es))=.cells (g8 es)by rw[Obj.sh,F8]]at g2;exact g2
theorem c6L {st:St} {o:Nat} {es:List Ent} (h:st[o]?=some (.cells (g8 es))):(shS 0 T_aw st)[shN 0 130 o]?=some (.cells (g8 es)):=by have g1:=Q3 (L:=0) (ext:=T_aw) (st:=st) (Nat.zero_le _) o;rw[h,a2t,AN,show Obj.sh 0 130 (.cells (g8 es))=.cells (g8 es)by rw[Obj.sh,F8]]at g1;exact g1
def b38 (es:List Ent) (m:Int) (X:List Nat) (v:AV) (st:St):Prop:=∃ (o1 o2 o3:Nat) (j l i:St),Ev tbl 9 [.ptr 132 0,.agg [v],W.txt1,Z3 m X] st (a8W (.sl o1 0 (es.length+1) 4) m X) j∧Ev tbl 9 [.ptr 132 0,.agg [.sl o1 0 (es.length+1) 4],W.txt2,Z3 m X] j (b0x (.sl o2 0 (es.length+1) 4) m X) l∧Ev tbl 9 [.ptr 132 0,.agg [.sl o2 0 (es.length+1) 4],W.txt3,Z3 m X] l (a8V (.sl o3 0 es.length 4)) i∧EntsAt v es i∧EntsAt (.sl o2 0 (es.length+1) 4) (e3 es m X) i∧EntsAt (.sl o3 0 es.length 4) es i
theorem c2J {es:List Ent} {m:Int} {X:List Nat} (hs:y8 es) (hl:es.length≤12) (hi:∀ e∈es,e.id∈idsL) (hm:MOK m) (ext:St):b38 es m X (.sl (161+ext.length) 0 es.length 4) (T_bb++(ext++[.cells (g8 es)])):=by have t:=b9D ext (l31 _) (d5n (X:=X) hs hl hi hm);have u:=b9D ext (lcA _) (d22 (X:=X) hs hl hi hm);have x:=b9D ext (lbA (vA es m X) (vB es m X)).1 (d4j (X:=X) hs hl hi hm);rw[d25,F8,F8]at t;have c1:=p1A (vA es m X) (vB es m X);have j:=p2A (vA es m X) (vB es m X);have l:=p3A (vA es m X) (vB es m X);simp only[show(vA es m X).C=g8 es from rfl,show(vB es m X).C3=g8 (e3 es m X)from rfl,show(vB es m X).C4=g8 es from rfl,F8]at c1 j l;have i:=(lbA (vA es m X) (vB es m X)).2;have d1:=a5E ext i c1;rw[show shN 0 130 31=161 from rfl,show shN 161 ext.length 161=161+ext.length by unfold shN; rw[if_neg (by omega)]]at d1;exact⟨shN 161 ext.length (shN 0 130 103),_,_,shS 161 ext (shS 0 T_aw (FA (vA es m X))),shS 161 ext (shS 0 T_aw (mvA (vA es m X) (@F2 (vB es m X)))),_,cvt t (by kernel_rfl),cvt u (by kernel_rfl),cvt x (by kernel_rfl),.inr ⟨_,rfl,d1⟩,.inr ⟨_,by rw[l3 hi],a5E ext i j⟩,.inr ⟨_,rfl,a5E ext i l⟩⟩
theorem c4v {m:Int} {X:List Nat} (hm:MOK m):b38 [] m X .nils T_bb:=by have i:=Ev.sh T5 (L:=0) T_aw (Nat.zero_le _) (Ev.ofQ (d4n (X:=X) hm));have t:=Ev.sh T5 (L:=0) T_aw (Nat.zero_le _) (Ev.ofQ (d2F (X:=X) hm));have u:=Ev.sh T5 (L:=0) T_aw (Nat.zero_le _) (Ev.ofQ (d5e (X:=X) hm));rw[show shS 0 T_aw T_b0=T_bb by kernel_rfl]at i;rw[a2t]at i t u;have j:=p2Z (vA [] m X) (vB [] m X);have l:=p3Z (vA [] m X) (vB [] m X);simp only[show(vB [] m X).C3=g8 (e3 [] m X)from rfl,show(vB [] m X).C4=g8 []from rfl,F8]at j l;exact⟨shN 0 130 101,_,_,shS 0 T_aw (FZ (vA [] m X)),shS 0 T_aw (mvZ (vA [] m X) (@F2 (vB [] m X))),_,cvt i (by kernel_rfl),cvt t (by kernel_rfl),cvt u (by kernel_rfl),.inl ⟨rfl,rfl⟩,.inr ⟨_,rfl,c6L j⟩,.inr ⟨_,rfl,c6L l⟩⟩
end Go.Cb.CodeA
