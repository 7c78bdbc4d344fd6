import Derived.Test.YtdlgfdncpemcnaaGreatDoorX3
set_option maxRecDepth 20000
set_option linter.all false
namespace Go.Cb.CodeA
open Go Go.Cb
open Nat renaming reduceAdd→rA,reduceSub→rS,reduceLeDiff→rL,reduceEqDiff→rE
attribute [local congr] H6 L7 O2 O3 K5 L8 S4 R9 V.runR_congr
theorem a5O (es:List Ent):(e9 es).map AV.weak1=e9 es:=by
 induction es with
 | nil=>rfl
 | cons e es i=>rw[show e9 (e::es)=e.row++e9 es from rfl,List.map_append,i]; rfl
theorem EntsAt.gr {v:AV} {es:List Ent} {st st':St} (h:EntsAt v es st) (hg:Gr st st'):EntsAt v es st':=by
 rcases h with h|⟨o,i,j⟩
 · exact .inl h
 · exact .inr ⟨o,i,hg o _ j⟩
theorem EntsAt.wk {v:AV} {es:List Ent} {st:St} (h:EntsAt v es st):v.weak=v∧v.weak1=v∧v.strip=v∧v.stripB=v∧v.plain=true∧v.cells=[v]∧v.cellsW=[v]:=by rcases h with⟨rfl,_⟩|⟨o,rfl,_⟩<;>exact⟨rfl,rfl,rfl,rfl,rfl,rfl,rfl⟩
theorem a8f (st:St):EvQ e8 22 [.nils] st (fun a st'=>a=.nils∧st'=st):=EvQ.of_ext (fn:=a22) rfl rfl (r:=(.nils,st)) rfl ⟨rfl,rfl⟩
theorem b0P {es:List Ent} {o:Nat} {st:St} (h:st[o]?=some (.cells (e9 es))) (hl:es.length≤100000):EvQ e8 22 [.sl o 0 es.length 4] st (fun a st'=>a=.sl st.length 0 es.length 4∧st'=st++[.cells (e9 es)]):=by refine EvQ.of_ext (fn:=a22) (e:=T4 4 80) (r:=(.sl st.length 0 es.length 4,st++[.cells (e9 es)])) rfl rfl ?_ ⟨rfl,rfl⟩;unfold T4;dsimp only;rw[h];dsimp only;rw[if_pos ⟨rfl,by rw[a0S]; omega,by omega⟩,List.drop_zero,← a0S,List.take_length,a5O]
theorem b79 (x:Ent) (st:St):EvQ e8 39 [.nils,.int .i64 0,.list false [x.row]] st (fun a st'=>a=.sl st.length 0 1 4∧st'=st++[.cells (e9 [x])]) :=
 EvQ.of_ext (fn:=a39) (e:=J6 4 80) (r:=(.sl st.length 0 1 4,st++[.cells (e9 [x])])) rfl rfl (by unfold J6; dsimp only; rw[if_pos ⟨rfl,rfl⟩]; rfl) ⟨rfl,rfl⟩
theorem a4V (es:List Ent):∀ i,(e9 es).take (i*4)=e9 (es.take i):=by
 induction es with
 | nil=>intro i; simp[e9]
 | cons e es j =>
  intro i;cases i with
  | zero=>rw[Nat.zero_mul,List.take_zero,List.take_zero]; rfl
  | succ i =>rw[List.take_succ_cons,show e9 (e::es)=e.row++e9 es from rfl,show e9 (e::es.take i)=e.row++e9 (es.take i)from rfl,← j i,show(i+1)*4=i*4+4 by omega];rfl
theorem d2u {es:List Ent} {o:Nat} {st:St} (x:Ent) (h:st[o]?=some (.cells (e9 es))) (hl:es.length≤100000) {i:Nat} (hi:i≤es.length):EvQ e8 39 [.sl o 0 es.length 4,.int .i64 i,.list false [x.row]] st (fun a st'=>a=.sl st.length 0 (es.length+1) 4∧st'=st.set o .dead++[.cells (e9 (es.take i++x::es.drop i))]):=by refine EvQ.of_ext (fn:=a39) (e:=J6 4 80) (r:=(.sl st.length 0 (es.length+1) 4,st.set o .dead++[.cells (e9 (es.take i++x::es.drop i))])) rfl rfl ?_ ⟨rfl,rfl⟩;simp only[J6,h];rw[if_pos ⟨trivial,by omega,by omega,a0S es,rfl,by omega⟩,Int.toNat_natCast,G9,a4V,a2b,a6w];rw[show e9 (x::es.drop i)=x.row++e9 (es.drop i)from rfl,List.map_append,List.map_append,a5O,a5O,List.append_assoc];rfl
theorem a9u {es:List Ent} {v:AV} {st:St} (h:EntsAt v es st) (hs:C9 es) (hl:es.length≤100000) (id:List Nat):EvQ e8 38 [.agg [v],.str id] st (fun a st'=>st'=st∧a=.tuple [.int .i64 (C1 id es),.bool (D4 id es)]):=by obtain⟨w1,j,l,t,i,u,x⟩:=h.wk;refine wh (fn:=a38) rfl rfl rfl ?_;simp +contextual -implicitDefEqProofs only [K38,SS,rA,rS,rL,rE,reduceCtorEq,w1,j,l,t,i,u,x];refine wa (b7r h hs hl id) (by simp only[m8,i]; rfl) (by simp only[List.map_cons,List.map_nil,w1]; rfl) ?_;rintro _ _ ⟨rfl,rfl⟩;simp +contextual -implicitDefEqProofs only [K38,SS,rA,rS,rL,rE,reduceCtorEq];exact wb ⟨_,_,rfl,rfl,rfl⟩
def i8 (es:List Ent) (x:Ent):List Ent:=if D4 x.id es then es.set (C1 x.id es) x else es.take (C1 x.id es)++x::es.drop (C1 x.id es)
theorem a7L {id:List Nat} {es:List Ent} (h:D4 id es=true):C1 id es < es.length:=by
 unfold D4 at h;cases i:es[C1 id es]? with
 | none=>rw[i]at h; cases h
 | some e=>exact(List.getElem?_eq_some_iff.1 i).1
theorem d2s {es:List Ent} (x:Ent):∀ {i:Nat},i < es.length→n8 (e9 es) (i*4) x.row=e9 (es.set i x):=by intro i hi;unfold n8;rw[show x.row.length=4 from rfl,a4V,show i*4+4=(i+1)*4 by omega,a2b,List.set_eq_take_append_cons_drop,if_pos hi,a6w,List.append_assoc];rfl
def a4m (v:AV) (es:List Ent) (x:Ent):St:=match v with
 | .nils=>[]
 | _=>if D4 x.id es then []else [.dead]
theorem a9M {o n:Nat} {es:List Ent} {x:Ent} (h:D4 x.id es=true):a4m (.sl o 0 n 4) es x=[]:=by unfold a4m; rw[h]; rfl
theorem a9o {o n:Nat} {es:List Ent} {x:Ent} (h:D4 x.id es=false):a4m (.sl o 0 n 4) es x=[.dead]:=by unfold a4m; rw[h]; rfl
theorem b0z {es:List Ent} {v:AV} {st:St} (h:EntsAt v es st) (hs:C9 es) (hl:es.length≤100000) (x:Ent):EvQ e8 18 [.agg [v],.agg x.row] st (fun a st'=>a=.agg [.sl (st.length+(a4m v es x).length) 0 (i8 es x).length 4]∧st'=st++(a4m v es x++[.cells (e9 (i8 es x))])):=by
 obtain⟨w1,F,G,I,J,M,N⟩:=h.wk;have ex:x.row=[.str x.t,.str x.id,.list false (x.ks.map m3),.list false (x.ls.map Val.row)]:=rfl;rw[ex];refine wh (fn:=a18) rfl rfl rfl ?_;simp +contextual -implicitDefEqProofs only [K18,SS,rA,rS,rL,rE,reduceCtorEq,w1,F,G,I,J,M,N];rcases h with⟨rfl,rfl⟩|⟨o,rfl,D⟩
 · refine wa (a8f st) rfl rfl ?_;rintro _ _ ⟨rfl,rfl⟩;simp +contextual -implicitDefEqProofs only [K18,SS,rA,rS,rL,rE,reduceCtorEq];refine wa (a9u (.inl ⟨rfl,rfl⟩) hs hl x.id) rfl rfl ?_;rintro _ st ⟨rfl,rfl⟩;simp +contextual -implicitDefEqProofs only [K18,SS,rA,rS,rL,rE,reduceCtorEq,show D4 x.id []=false from rfl,show C1 x.id []=0 from rfl];have hi:=b79 x st;rw[ex]at hi;refine wa hi rfl rfl ?_;rintro _ _ ⟨rfl,rfl⟩;simp +contextual -implicitDefEqProofs only [K18,SS,rA,rS,rL,rE,reduceCtorEq];exact wb ⟨_,_,rfl,rfl,rfl⟩
 · refine wa (b0P D hl) rfl rfl ?_;rintro _ _ ⟨rfl,rfl⟩;simp +contextual -implicitDefEqProofs only [K18,SS,rA,rS,rL,rE,reduceCtorEq];refine wa (a9u (.inr ⟨o,rfl,Gr.app st _ _ _ D⟩) hs hl x.id) rfl rfl ?_;rintro _ _ ⟨rfl,rfl⟩;simp +contextual -implicitDefEqProofs only [K18,SS,rA,rS,rL,rE,reduceCtorEq];refine wg (fun j=>?_) (fun j=>?_)
   · have z:=a7L j;have B:((C1 x.id es:Int) < (es.length:Int))=True:=by simp; omega
     have y:=a4z st (.cells (e9 es));have i:=d2s x z;rw[ex]at i;have l:C1 x.id es*4+4≤(e9 es).length:=by rw[a0S]; omega
     simp +contextual -implicitDefEqProofs only [K18,SS,rA,rS,rL,rE,reduceCtorEq,B,if_true,y,l,i,a9j];refine wb ⟨_,_,rfl,by rw[a9M j,i8,if_pos j,List.length_set]; rfl,by rw[a9M j,i8,if_pos j,← i]; rfl⟩
   · have E:=a6V x.id es;have hi:=d2u x (a4z st (.cells (e9 es))) hl E;rw[ex]at hi;simp +contextual -implicitDefEqProofs only [K18,SS,rA,rS,rL,rE,reduceCtorEq];refine wa hi rfl rfl ?_;rintro _ _ ⟨rfl,rfl⟩;simp +contextual -implicitDefEqProofs only [K18,SS,rA,rS,rL,rE,reduceCtorEq,a9j];have u:(es.take (C1 x.id es)++x::es.drop (C1 x.id es)).length=es.length+1:=by simp; omega
     refine wb ⟨_,_,rfl,?_,?_⟩
     · rw[a9o j,i8,if_neg (by rw[j]; decide),u,List.length_append]; rfl
     · rw[a9o j,i8,if_neg (by rw[j]; decide)];simp
end Go.Cb.CodeA
