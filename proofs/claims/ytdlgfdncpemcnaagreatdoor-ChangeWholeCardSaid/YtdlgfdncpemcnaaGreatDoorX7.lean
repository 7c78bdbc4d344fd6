import Derived.Test.YtdlgfdncpemcnaaGreatDoorX5
set_option maxRecDepth 20000
set_option linter.all false
namespace Go.Cb.CodeA
open Go Go.Cb
open Nat renaming reduceAdd→rA,reduceSub→rS,reduceLeDiff→rL,reduceEqDiff→rE
attribute [local congr] H6 L7 O2 O3 K5 L8 S4 R9 V.runR_congr
theorem a5q (n:Int):eqI n n=true:=by rw[eqI_eq]; simp
inductive Val.Fin:Val→Prop
 | mk (k n:Int) (s:List Nat) (ks:List (List Nat)) (ls:List Val) (hk:ks.length < 2 ^ 62) (hl:ls.length < 2 ^ 62) (h:∀ v∈ls,Val.Fin v):Val.Fin (.mk k n s ks ls)
theorem f2i {v:Val} (h:v.Fin):∀ st:St,EvQ e8 47 [.agg v.row,.agg v.row] st (fun a st'=>st'=st∧a=.bool true):=by
 induction h with
 | mk k n s ks ls hk hl h E =>
  intro st;rw[Val.row_eq];refine wh (fn:=a47) rfl rfl rfl ?_;simp +contextual -implicitDefEqProofs only [K47,SS,rA,rS,rL,rE,reduceCtorEq,a5q,P5,Bool.not_true,List.length_map];refine we (fun B fr st'=>st'=st∧∃ (i:Nat),i≤ks.length∧B=ks.length - i∧fr=[.agg [.int .u8 k,.int .i64 n,.str s,.list false (ks.map m3),.list false (ls.map Val.row)],.agg [.int .u8 k,.int .i64 n,.str s,.list false (ks.map m3),.list false (ls.map Val.row)],.box [.int .u8 k,.int .i64 n,.str s,.list false (ks.map m3),.list false (ls.map Val.row)],.box [.int .u8 k,.int .i64 n,.str s,.list false (ks.map m3),.list false (ls.map Val.row)],.bool false,.int .i64 i,.undef]) (m:=ks.length) ⟨rfl,0,Nat.zero_le _,rfl,rfl⟩ ?_;rintro B fr st' ⟨rfl,i,hi,rfl,rfl⟩;by_cases t:i < ks.length
  · have z:=b54 t;simp +contextual -implicitDefEqProofs only [K47,SS,rA,rS,rL,rE,reduceCtorEq,List.length_map,t,z,P5,Bool.not_true,a0X (show i+1 < 2 ^ 63 by omega)];exact wc (m':=ks.length - (i+1)) (by omega) ⟨rfl,i+1,t,rfl,rfl⟩
  simp +contextual -implicitDefEqProofs only [K47,SS,rA,rS,rL,rE,reduceCtorEq,List.length_map,t];refine wd ?_;simp +contextual -implicitDefEqProofs only [K47,SS,rA,rS,rL,rE,reduceCtorEq];refine we (fun B fr y=>y=st'∧∃ (j:Nat),j≤ls.length∧B=ls.length - j∧fr=[.agg [.int .u8 k,.int .i64 n,.str s,.list false (ks.map m3),.list false (ls.map Val.row)],.agg [.int .u8 k,.int .i64 n,.str s,.list false (ks.map m3),.list false (ls.map Val.row)],.box [.int .u8 k,.int .i64 n,.str s,.list false (ks.map m3),.list false (ls.map Val.row)],.box [.int .u8 k,.int .i64 n,.str s,.list false (ks.map m3),.list false (ls.map Val.row)],.bool false,.int .i64 i,.int .i64 j]) (m:=ls.length) ⟨rfl,0,Nat.zero_le _,rfl,rfl⟩ ?_;rintro B fr y ⟨rfl,j,I,rfl,rfl⟩;by_cases l:j < ls.length
  · have z:=b6X l;have x:=E _ (List.getElem_mem l);revert z x;generalize ls[j]=u;intro z x;obtain⟨k1,J,M,F,G,D⟩:=u.row_cells;rw[D]at z;simp only[D]at x;simp +contextual -implicitDefEqProofs only [K47,SS,rA,rS,rL,rE,reduceCtorEq,List.length_map,l,z];refine wa (x _) rfl rfl ?_;rintro _ _ ⟨rfl,rfl⟩;simp +contextual -implicitDefEqProofs only [K47,SS,rA,rS,rL,rE,reduceCtorEq,Bool.not_true,a0X (show j+1 < 2 ^ 63 by omega)];exact wc (m':=ls.length - (j+1)) (by omega) ⟨rfl,j+1,l,rfl,rfl⟩
  · simp +contextual -implicitDefEqProofs only [K47,SS,rA,rS,rL,rE,reduceCtorEq,List.length_map,l];refine wd ?_;simp +contextual -implicitDefEqProofs only [K47,SS,rA,rS,rL,rE,reduceCtorEq];exact wb ⟨_,_,rfl,rfl,rfl⟩
theorem Small.fin {v:Val} (h:Small v):v.Fin:=by
 obtain⟨k,n,s,ls,rfl,_,hl,hu⟩:=h;refine .mk _ _ _ _ _ (by decide) (by omega) fun u i=>?_
 obtain⟨k,n,s,rfl,_⟩:=hu u i;exact .mk _ _ _ _ _ (by decide) (by decide) fun u hu=>by cases hu
theorem b5P {e:Ent} (h:e.Good) (st:St):EvQ e8 21 [.agg e.row,.agg e.row] st (fun a st'=>st'=st∧a=.bool true):=by have hk:=h.kl;have hl:=h.le;have hs:=f2i (v:=.mk 0 0 [] e.ks e.ls) (.mk _ _ _ _ _ (by omega) (by omega) fun v j=>(h.sm v j).fin) st;rw[Val.row_eq]at hs;have i:e.row=[.str e.t,.str e.id,.list false (e.ks.map m3),.list false (e.ls.map Val.row)]:=rfl;rw[i];refine wh (fn:=a21) rfl rfl rfl ?_;simp +contextual -implicitDefEqProofs only [K21,SS,rA,rS,rL,rE,reduceCtorEq,P5];refine wa hs rfl rfl ?_;rintro _ _ ⟨rfl,rfl⟩;simp +contextual -implicitDefEqProofs only [K21,SS,rA,rS,rL,rE,reduceCtorEq];exact wb ⟨_,_,rfl,rfl,rfl⟩
theorem c0w {es:List Ent} (hl:es.length≤100000) {v:AV} {st:St} (j:EntsAt v es st):EvQ e8 14 [.agg [v]] st (fun a st'=>EntsAt a es st'∧Gr st st'):=by
 rcases j with⟨rfl,rfl⟩|⟨o,rfl,i⟩
 · refine wh (fn:=a14) rfl rfl rfl ?_;simp +contextual -implicitDefEqProofs only [K14,SS,rA,rS,rL,rE,reduceCtorEq];refine wa (a8f st) rfl rfl ?_;rintro _ _ ⟨rfl,rfl⟩;simp +contextual -implicitDefEqProofs only [K14,SS,rA,rS,rL,rE,reduceCtorEq];exact wb ⟨_,_,rfl,.inl ⟨rfl,rfl⟩,Gr.refl _⟩
 · refine wh (fn:=a14) rfl rfl rfl ?_;simp +contextual -implicitDefEqProofs only [K14,SS,rA,rS,rL,rE,reduceCtorEq];refine wa (b0P i hl) rfl rfl ?_;rintro _ _ ⟨rfl,rfl⟩;simp +contextual -implicitDefEqProofs only [K14,SS,rA,rS,rL,rE,reduceCtorEq];exact wb ⟨_,_,rfl,.inr ⟨_,rfl,a4z st _⟩,Gr.app _ _⟩
theorem b4U {es:List Ent} {i:Nat} (h:i < es.length):(4≤(List.drop (i*4) (e9 es)).length)=True∧List.map AV.weak1 (List.take 4 (List.drop (i*4) (e9 es)))=es[i].row:=by
 have j:=a7P h;rw[R.takeVal_t]at j;split at j
 · rename_i hl;exact⟨by simpa using hl,by simpa using j⟩
 · cases j
def Ent.none:Ent:=⟨[],[],[],[]⟩
def F8 (es:List Ent) (id:List Nat):Option Ent:=if D4 id es then es[C1 id es]? else .none
theorem a7Y {es:List Ent} {id:List Nat} {e:Ent} (h:F8 es id=some e):e∈es∧eqN e.id id=true:=by
 unfold F8 at h;split at h
 · rename_i i;unfold D4 at i;rw[h]at i;exact⟨List.mem_of_getElem? h,i⟩
 · cases h
theorem b4o {es:List Ent} {v:AV} {st:St} (z:EntsAt v es st) (hs:C9 es) (hl:es.length≤100000) (id:List Nat):EvQ e8 177 [.agg [v],.str id] st (fun a st'=>st'=st∧a=.tuple [.agg ((F8 es id).getD Ent.none).row,.bool (F8 es id).isSome]):=by
 have j:=a9u z hs hl id;have x:=fun h=>a7L (es:=es) (id:=id) h
 rcases z with⟨rfl,rfl⟩|⟨o,rfl,D⟩
 · refine wh (fn:=a177) rfl rfl rfl ?_;simp +contextual -implicitDefEqProofs only [a9N,SS,rA,rS,rL,rE,reduceCtorEq];refine wa j rfl rfl ?_;rintro _ _ ⟨rfl,rfl⟩;simp +contextual -implicitDefEqProofs only [a9N,SS,rA,rS,rL,rE,reduceCtorEq,show D4 id []=false from rfl,Bool.not_false];exact wb ⟨_,_,rfl,rfl,rfl⟩
 · refine wh (fn:=a177) rfl rfl rfl ?_;simp +contextual -implicitDefEqProofs only [a9N,SS,rA,rS,rL,rE,reduceCtorEq];refine wa j rfl rfl ?_;rintro _ _ ⟨rfl,rfl⟩;unfold F8;rcases D8 (D4 id es)with h|h
   · have l:=x h;obtain⟨u,i⟩:=b4U l;have y:((C1 id es:Int) < (es.length:Int))=True:=by simp; omega
     rw[if_pos h,List.getElem?_eq_getElem l];revert i;generalize es[C1 id es]=e;intro i;have B:e.row=[.str e.t,.str e.id,.list false (e.ks.map m3),.list false (e.ls.map Val.row)]:=rfl;rw[B]at i;simp +contextual -implicitDefEqProofs only [a9N,SS,rA,rS,rL,rE,reduceCtorEq,h,Bool.not_true,y,if_true,D,u,i];exact wb ⟨_,_,rfl,rfl,rfl⟩
   · rw[h,if_neg (by decide)];simp +contextual -implicitDefEqProofs only [a9N,SS,rA,rS,rL,rE,reduceCtorEq,h,Bool.not_false];exact wb ⟨_,_,rfl,rfl,rfl⟩
end Go.Cb.CodeA
