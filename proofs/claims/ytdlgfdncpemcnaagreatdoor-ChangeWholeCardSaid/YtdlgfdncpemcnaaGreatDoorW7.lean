import Derived.Test.YtdlgfdncpemcnaaGreatDoorW6
import Derived.Test.YtdlgfdncpemcnaaGreatDoorMaw
set_option maxRecDepth 100000
set_option linter.all false
namespace Go.Cb.CodeA
open Go Go.Cb Go.Cb.G
theorem a7G (L d:Nat):∀ ks:List (List Nat),N9 L d (ks.map m3)=ks.map m3
 | []=>rfl
 | k::ks=>by rw[List.map_cons,N9,a7G L d ks]; rfl
mutual
theorem Val.row_sh (L d:Nat):∀ v:Val,I8 L d v.row=v.row
 | .mk k n s ks ls=>by rw[Val.row]; simp only[I8,AV.sh,a7G,Val.rows_sh L d ls]
theorem Val.rows_sh (L d:Nat):∀ vs:List Val,N9 L d (Val.rows vs)=Val.rows vs
 | []=>by simp only[Val.rows,N9]
 | v::vs=>by simp only[Val.rows,N9,Val.row_sh L d v,Val.rows_sh L d vs]
end
theorem e0q (L d:Nat) (e:Ent):e.row.map (AV.sh L d)=e.row:=by unfold Ent.row;simp only[List.map_cons,List.map_nil,AV.sh,a7G];rw[← Val.rows_map,Val.rows_sh]
theorem a0q (L d:Nat):∀ es:List Ent,(e9 es).map (AV.sh L d)=e9 es
 | []=>rfl
 | e::es=>by rw[show e9 (e::es)=e.row++e9 es from rfl,List.map_append,e0q,a0q L d es]
def T_bb:St:=T_aw++T_b0.map (Obj.sh 0 130)
theorem d3z:Ev tbl 6 [] T_aw (R_b0.sh 0 130) T_bb:=by have h:=Ev.sh a00 (L:=0) T_aw (Nat.zero_le _) (ev_ofG g7I);rw[show T_aw.length=130 by kernel_rfl,show shS 0 T_aw T_b0=T_bb by kernel_rfl,show shS 0 T_aw []=T_aw by kernel_rfl]at h;exact h
theorem g1G (ext:St) (C:List AV):shS 161 ext (shS 0 T_aw (T_b0++[.cells C]))=T_bb++(ext++[.cells ((C.map (AV.sh 0 130)).map (AV.sh 161 ext.length))]):=by kernel_rfl
theorem a5Y:T_aw.length=130:=by kernel_rfl
theorem f4k:T_b0.length=31:=by kernel_rfl
theorem e9A (C:List AV):161≤(shS 0 T_aw (T_b0++[.cells C])).length:=by rw[a7t (Nat.zero_le _),a5Y,List.length_append,f4k];exact Nat.le_of_ble_eq_true rfl
theorem f3M {es:List Ent} {m:Int} {X:List Nat} (ext:St) (hs:C9 es) (hl:es.length≤12) (hg:∀ e∈es,e.Good) (hX:X∈idsL) (v:MOK m):∃ (ks vs:List (List AV)) (a b c:Nat) (st':St),Ev tbl 8 [.ptr 132 0,.agg [.sl (161+ext.length) 0 es.length 4],W.txtW,a4n m X] (T_bb++(ext++[.cells (e9 es)])) (a5l (.sl (161+ext.length) 0 es.length 4) ks vs a b c) st'∧st'[161+ext.length]?=some (.cells (e9 es)):=by obtain⟨ks,vs,a,b,c,st',h,j⟩:=f2O hs hl hg hX v;have u:=Ev.sh a00 (L:=0) T_aw (Nat.zero_le _) (Ev.ofQ h);have t:=Ev.sh a00 (L:=161) ext (e9A _) u;rw[g1G,a0q,a0q,a5Y]at t;refine⟨N9 161 ext.length (N9 0 130 ks),N9 161 ext.length (N9 0 130 vs),shN 161 ext.length (shN 0 130 a),b,c,shS 161 ext (shS 0 T_aw st'),cvt t (by kernel_rfl),?_⟩;have i:=T5 (L:=0) (ext:=T_aw) (st:=st') (Nat.zero_le _) 31;rw[j,a5Y,show shN 0 130 31=161 from rfl,Option.map_some,show Obj.sh 0 130 (.cells (e9 es))=.cells (e9 es)by rw[Obj.sh,a0q]]at i;have l:=T5 (L:=161) (ext:=ext) (st:=shS 0 T_aw st') (Nat.le_of_lt (List.getElem?_eq_some_iff.1 i).1) 161;rw[i,Option.map_some,show shN 161 ext.length 161=161+ext.length by unfold shN; rw[if_neg (by omega)],show Obj.sh 161 ext.length (.cells (e9 es))=.cells (e9 es)by rw[Obj.sh,a0q]]at l;exact l
theorem c7F {m:Int} {X:List Nat} (hX:X∈idsL) (j:MOK m):∃ (ks vs:List (List AV)) (a b c:Nat) (st':St),Ev tbl 8 [.ptr 132 0,.agg [.nils],W.txtW,a4n m X] T_bb (a5l .nils ks vs a b c) st':=by obtain⟨ks,vs,a,b,c,st',h⟩:=e6N hX j;have i:=Ev.sh a00 (L:=0) T_aw (Nat.zero_le _) (Ev.ofQ h);rw[show shS 0 T_aw T_b0=T_bb by kernel_rfl,a5Y]at i;exact⟨N9 0 130 ks,N9 0 130 vs,shN 0 130 a,b,c,shS 0 T_aw st',cvt i (by kernel_rfl)⟩
end Go.Cb.CodeA
