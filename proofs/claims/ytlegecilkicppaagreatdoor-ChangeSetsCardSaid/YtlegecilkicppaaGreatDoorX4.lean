import Derived.Test.YtlegecilkicppaaGreatDoorX3
set_option maxRecDepth 20000
set_option linter.all false
namespace Go.Cb.CodeA
open Go Go.Cb
open Nat renaming reduceAdd→rA,reduceSub→rS,reduceLeDiff→rL,reduceEqDiff→rE
attribute [local congr] F1 H7 L1 K5 H5 H1 O7 N7 V.runR_congr
theorem a1w (es:List Ent):(g8 es).map AV.weak1=g8 es:=by
 induction es with
 | nil=>rfl
 | cons e es i=>rw[show g8 (e::es)=e.row++g8 es from rfl,List.map_append,i]; rfl
theorem EntsAt.gr {v:AV} {es:List Ent} {st st':St} (h:EntsAt v es st) (l:Gr st st'):EntsAt v es st':=by
 rcases h with h|⟨o,i,j⟩
 · exact .inl h
 · exact .inr ⟨o,i,l o _ j⟩
theorem EntsAt.wk {v:AV} {es:List Ent} {st:St} (h:EntsAt v es st):v.weak=v∧v.weak1=v∧v.strip=v∧v.stripB=v∧v.plain=true∧v.cells=[v]∧v.cellsW=[v]:=by rcases h with⟨rfl,_⟩|⟨o,rfl,_⟩<;>exact⟨rfl,rfl,rfl,rfl,rfl,rfl,rfl⟩
theorem a7D (st:St):EvQ e7 22 [.nils] st (fun a st'=>a=.nils∧st'=st):=EvQ.of_ext (fn:=a22) rfl rfl (r:=(.nils,st)) rfl ⟨rfl,rfl⟩
theorem a5v {es:List Ent} {o:Nat} {st:St} (h:st[o]?=some (.cells (g8 es))) (hl:es.length≤100000):EvQ e7 22 [.sl o 0 es.length 4] st (fun a st'=>a=.sl st.length 0 es.length 4∧st'=st++[.cells (g8 es)]):=by refine EvQ.of_ext (fn:=a22) (e:=T9 4 80) (r:=(.sl st.length 0 es.length 4,st++[.cells (g8 es)])) rfl rfl ?_ ⟨rfl,rfl⟩;unfold T9;dsimp only;rw[h];dsimp only;rw[if_pos ⟨rfl,by rw[Y1]; omega,by omega⟩,List.drop_zero,← Y1,List.take_length,a1w]
theorem b8A (x:Ent) (st:St):EvQ e7 40 [.nils,.int .i64 0,.list false [x.row]] st (fun a st'=>a=.sl st.length 0 1 4∧st'=st++[.cells (g8 [x])]) :=
 EvQ.of_ext (fn:=a40) (e:=J6 4 80) (r:=(.sl st.length 0 1 4,st++[.cells (g8 [x])])) rfl rfl (by unfold J6; dsimp only; rw[if_pos ⟨rfl,rfl⟩]; rfl) ⟨rfl,rfl⟩
theorem a1Z (es:List Ent):∀ i,(g8 es).take (i*4)=g8 (es.take i):=by
 induction es with
 | nil=>intro i; simp[g8]
 | cons e es j =>
  intro i;cases i with
  | zero=>rw[Nat.zero_mul,List.take_zero,List.take_zero]; rfl
  | succ i =>rw[List.take_succ_cons,show g8 (e::es)=e.row++g8 es from rfl,show g8 (e::es.take i)=e.row++g8 (es.take i)from rfl,← j i,show(i+1)*4=i*4+4 by omega];rfl
theorem c4z {es:List Ent} {o:Nat} {st:St} (x:Ent) (h:st[o]?=some (.cells (g8 es))) (hl:es.length≤100000) {i:Nat} (hi:i≤es.length):EvQ e7 40 [.sl o 0 es.length 4,.int .i64 i,.list false [x.row]] st (fun a st'=>a=.sl st.length 0 (es.length+1) 4∧st'=st.set o .dead++[.cells (g8 (es.take i++x::es.drop i))]):=by refine EvQ.of_ext (fn:=a40) (e:=J6 4 80) (r:=(.sl st.length 0 (es.length+1) 4,st.set o .dead++[.cells (g8 (es.take i++x::es.drop i))])) rfl rfl ?_ ⟨rfl,rfl⟩;simp only[J6,h];rw[if_pos ⟨trivial,by omega,by omega,Y1 es,rfl,by omega⟩,Int.toNat_natCast,G9,a1Z,a0B,a3n];rw[show g8 (x::es.drop i)=x.row++g8 (es.drop i)from rfl,List.map_append,List.map_append,a1w,a1w,List.append_assoc];rfl
theorem a6f {es:List Ent} {v:AV} {st:St} (h:EntsAt v es st) (hs:y8 es) (hl:es.length≤100000) (id:List Nat):EvQ e7 23 [.agg [v],.str id] st (fun a st'=>st'=st∧a=.tuple [.int .i64 (B0 id es),.bool (t8 id es)]):=by obtain⟨w1,j,l,t,i,u,x⟩:=h.wk;refine wh (fn:=a23) rfl rfl rfl ?_;simp +contextual -implicitDefEqProofs only [K23,SS,rA,rS,rL,rE,reduceCtorEq,w1,j,l,t,i,u,x];refine wa (b8r h hs hl id) (by simp only[m4,i]; rfl) (by simp only[List.map_cons,List.map_nil,w1]; rfl) ?_;rintro _ _ ⟨rfl,rfl⟩;simp +contextual -implicitDefEqProofs only [K23,SS,rA,rS,rL,rE,reduceCtorEq];exact wb ⟨_,_,rfl,rfl,rfl⟩
def x9 (es:List Ent) (x:Ent):List Ent:=if t8 x.id es then es.set (B0 x.id es) x else es.take (B0 x.id es)++x::es.drop (B0 x.id es)
theorem a4y {id:List Nat} {es:List Ent} (h:t8 id es=true):B0 id es < es.length:=by
 unfold t8 at h;cases i:es[B0 id es]? with
 | none=>rw[i]at h; cases h
 | some e=>exact(List.getElem?_eq_some_iff.1 i).1
theorem c3f {es:List Ent} (x:Ent):∀ {i:Nat},i < es.length→n6 (g8 es) (i*4) x.row=g8 (es.set i x):=by intro i hi;unfold n6;rw[show x.row.length=4 from rfl,a1Z,show i*4+4=(i+1)*4 by omega,a0B,List.set_eq_take_append_cons_drop,if_pos hi,a3n,List.append_assoc];rfl
def a4n (v:AV) (es:List Ent) (x:Ent):St:=match v with
 | .nils=>[]
 | _=>if t8 x.id es then []else [.dead]
theorem a8B {o n:Nat} {es:List Ent} {x:Ent} (h:t8 x.id es=true):a4n (.sl o 0 n 4) es x=[]:=by unfold a4n; rw[h]; rfl
theorem b0j {o n:Nat} {es:List Ent} {x:Ent} (h:t8 x.id es=false):a4n (.sl o 0 n 4) es x=[.dead]:=by unfold a4n; rw[h]; rfl
theorem a9a {es:List Ent} {v:AV} {st:St} (h:EntsAt v es st) (hs:y8 es) (hl:es.length≤100000) (x:Ent):EvQ e7 17 [.agg [v],.agg x.row] st (fun a st'=>a=.agg [.sl (st.length+(a4n v es x).length) 0 (x9 es x).length 4]∧st'=st++(a4n v es x++[.cells (g8 (x9 es x))])):=by
 obtain⟨w1,E,F,G,I,J,M⟩:=h.wk;have ex:x.row=[.str x.t,.str x.id,.list false (x.ks.map r6),.list false (x.ls.map Val.row)]:=rfl;rw[ex];refine wh (fn:=a17) rfl rfl rfl ?_;simp +contextual -implicitDefEqProofs only [K17,SS,rA,rS,rL,rE,reduceCtorEq,w1,E,F,G,I,J,M];rcases h with⟨rfl,rfl⟩|⟨o,rfl,C⟩
 · refine wa (a7D st) rfl rfl ?_;rintro _ _ ⟨rfl,rfl⟩;simp +contextual -implicitDefEqProofs only [K17,SS,rA,rS,rL,rE,reduceCtorEq];refine wa (a6f (.inl ⟨rfl,rfl⟩) hs hl x.id) rfl rfl ?_;rintro _ st ⟨rfl,rfl⟩;simp +contextual -implicitDefEqProofs only [K17,SS,rA,rS,rL,rE,reduceCtorEq,show t8 x.id []=false from rfl,show B0 x.id []=0 from rfl];have hi:=b8A x st;rw[ex]at hi;refine wa hi rfl rfl ?_;rintro _ _ ⟨rfl,rfl⟩;simp +contextual -implicitDefEqProofs only [K17,SS,rA,rS,rL,rE,reduceCtorEq];exact wb ⟨_,_,rfl,rfl,rfl⟩
 · refine wa (a5v C hl) rfl rfl ?_;rintro _ _ ⟨rfl,rfl⟩;simp +contextual -implicitDefEqProofs only [K17,SS,rA,rS,rL,rE,reduceCtorEq];refine wa (a6f (.inr ⟨o,rfl,Gr.app st _ _ _ C⟩) hs hl x.id) rfl rfl ?_;rintro _ _ ⟨rfl,rfl⟩;simp +contextual -implicitDefEqProofs only [K17,SS,rA,rS,rL,rE,reduceCtorEq];refine wg (fun j=>?_) (fun j=>?_)
   · have z:=a4y j;have B:((B0 x.id es:Int) < (es.length:Int))=True:=by simp; omega
     have y:=a2G st (.cells (g8 es));have i:=c3f x z;rw[ex]at i;have l:B0 x.id es*4+4≤(g8 es).length:=by rw[Y1]; omega
     simp +contextual -implicitDefEqProofs only [K17,SS,rA,rS,rL,rE,reduceCtorEq,B,if_true,y,l,i,a5P];refine wb ⟨_,_,rfl,by rw[a8B j,x9,if_pos j,List.length_set]; rfl,by rw[a8B j,x9,if_pos j,← i]; rfl⟩
   · have D:=a7b x.id es;have hi:=c4z x (a2G st (.cells (g8 es))) hl D;rw[ex]at hi;simp +contextual -implicitDefEqProofs only [K17,SS,rA,rS,rL,rE,reduceCtorEq];refine wa hi rfl rfl ?_;rintro _ _ ⟨rfl,rfl⟩;simp +contextual -implicitDefEqProofs only [K17,SS,rA,rS,rL,rE,reduceCtorEq,a5P];have u:(es.take (B0 x.id es)++x::es.drop (B0 x.id es)).length=es.length+1:=by simp; omega
     refine wb ⟨_,_,rfl,?_,?_⟩
     · rw[b0j j,x9,if_neg (by rw[j]; decide),u,List.length_append]; rfl
     · rw[b0j j,x9,if_neg (by rw[j]; decide)];simp
end Go.Cb.CodeA
