import Derived.Test.YtlegecilkicppaaGreatDoorX5
set_option maxRecDepth 20000
set_option linter.all false
namespace Go.Cb.CodeA
open Go Go.Cb
open Nat renaming reduceAdd→rA,reduceSub→rS,reduceLeDiff→rL,reduceEqDiff→rE
attribute [local congr] F1 H7 L1 K5 H5 H1 O7 N7 V.runR_congr
theorem E7 (n:Int):eqI n n=true:=by rw[eqI_eq]; simp
inductive Val.Fin:Val→Prop
 | mk (k n:Int) (s:List Nat) (ks:List (List Nat)) (ls:List Val) (hk:ks.length < 2 ^ 62) (hl:ls.length < 2 ^ 62) (h:∀ v∈ls,Val.Fin v):Val.Fin (.mk k n s ks ls)
theorem d1P {v:Val} (h:v.Fin):∀ st:St,EvQ e7 48 [.agg v.row,.agg v.row] st (fun a st'=>st'=st∧a=.bool true):=by
 induction h with
 | mk k n s ks ls F hl h B =>
  intro st;rw[Val.row_eq];refine wh (fn:=a48) rfl rfl rfl ?_;simp +contextual -implicitDefEqProofs only [K48,SS,rA,rS,rL,rE,reduceCtorEq,E7,q7,Bool.not_true,List.length_map];refine we (fun z fr st'=>st'=st∧∃ (i:Nat),i≤ks.length∧z=ks.length - i∧fr=[.agg [.int .u8 k,.int .i64 n,.str s,.list false (ks.map r6),.list false (ls.map Val.row)],.agg [.int .u8 k,.int .i64 n,.str s,.list false (ks.map r6),.list false (ls.map Val.row)],.box [.int .u8 k,.int .i64 n,.str s,.list false (ks.map r6),.list false (ls.map Val.row)],.box [.int .u8 k,.int .i64 n,.str s,.list false (ks.map r6),.list false (ls.map Val.row)],.bool false,.int .i64 i,.undef]) (m:=ks.length) ⟨rfl,0,Nat.zero_le _,rfl,rfl⟩ ?_;rintro z fr st' ⟨rfl,i,hi,rfl,rfl⟩;by_cases t:i < ks.length
  · have e2:=b6g t;simp +contextual -implicitDefEqProofs only [K48,SS,rA,rS,rL,rE,reduceCtorEq,List.length_map,t,e2,q7,Bool.not_true,a0z (show i+1 < 2 ^ 63 by omega)];exact wc (m':=ks.length - (i+1)) (by omega) ⟨rfl,i+1,t,rfl,rfl⟩
  simp +contextual -implicitDefEqProofs only [K48,SS,rA,rS,rL,rE,reduceCtorEq,List.length_map,t];refine wd ?_;simp +contextual -implicitDefEqProofs only [K48,SS,rA,rS,rL,rE,reduceCtorEq];refine we (fun z fr y=>y=st'∧∃ (j:Nat),j≤ls.length∧z=ls.length - j∧fr=[.agg [.int .u8 k,.int .i64 n,.str s,.list false (ks.map r6),.list false (ls.map Val.row)],.agg [.int .u8 k,.int .i64 n,.str s,.list false (ks.map r6),.list false (ls.map Val.row)],.box [.int .u8 k,.int .i64 n,.str s,.list false (ks.map r6),.list false (ls.map Val.row)],.box [.int .u8 k,.int .i64 n,.str s,.list false (ks.map r6),.list false (ls.map Val.row)],.bool false,.int .i64 i,.int .i64 j]) (m:=ls.length) ⟨rfl,0,Nat.zero_le _,rfl,rfl⟩ ?_;rintro z fr y ⟨rfl,j,E,rfl,rfl⟩;by_cases l:j < ls.length
  · have e2:=b58 l;have x:=B _ (List.getElem_mem l);revert e2 x;generalize ls[j]=u;intro e2 x;obtain⟨k1,G,s1,C,D,e1⟩:=u.row_cells;rw[e1]at e2;simp only[e1]at x;simp +contextual -implicitDefEqProofs only [K48,SS,rA,rS,rL,rE,reduceCtorEq,List.length_map,l,e2];refine wa (x _) rfl rfl ?_;rintro _ _ ⟨rfl,rfl⟩;simp +contextual -implicitDefEqProofs only [K48,SS,rA,rS,rL,rE,reduceCtorEq,Bool.not_true,a0z (show j+1 < 2 ^ 63 by omega)];exact wc (m':=ls.length - (j+1)) (by omega) ⟨rfl,j+1,l,rfl,rfl⟩
  · simp +contextual -implicitDefEqProofs only [K48,SS,rA,rS,rL,rE,reduceCtorEq,List.length_map,l];refine wd ?_;simp +contextual -implicitDefEqProofs only [K48,SS,rA,rS,rL,rE,reduceCtorEq];exact wb ⟨_,_,rfl,rfl,rfl⟩
theorem Small.fin {v:Val} (h:Small v):v.Fin:=by
 obtain⟨k,n,s,ls,rfl,_,hl,hu⟩:=h;refine .mk _ _ _ _ _ (by decide) (by omega) fun u i=>?_
 obtain⟨k,n,s,rfl,_⟩:=hu u i;exact .mk _ _ _ _ _ (by decide) (by decide) fun u hu=>by cases hu
theorem b5I {e:Ent} (h:e.Good) (st:St):EvQ e7 21 [.agg e.row,.agg e.row] st (fun a st'=>st'=st∧a=.bool true):=by have l:=h.kl;have hl:=h.le;have hs:=d1P (v:=.mk 0 0 [] e.ks e.ls) (.mk _ _ _ _ _ (by omega) (by omega) fun v j=>(h.sm v j).fin) st;rw[Val.row_eq]at hs;have i:e.row=[.str e.t,.str e.id,.list false (e.ks.map r6),.list false (e.ls.map Val.row)]:=rfl;rw[i];refine wh (fn:=a21) rfl rfl rfl ?_;simp +contextual -implicitDefEqProofs only [K21,SS,rA,rS,rL,rE,reduceCtorEq,q7];refine wa hs rfl rfl ?_;rintro _ _ ⟨rfl,rfl⟩;simp +contextual -implicitDefEqProofs only [K21,SS,rA,rS,rL,rE,reduceCtorEq];exact wb ⟨_,_,rfl,rfl,rfl⟩
theorem a8f {es:List Ent} (hl:es.length≤100000) {v:AV} {st:St} (j:EntsAt v es st):EvQ e7 11 [.agg [v]] st (fun a st'=>EntsAt a es st'∧Gr st st'):=by
 rcases j with⟨rfl,rfl⟩|⟨o,rfl,i⟩
 · refine wh (fn:=a11) rfl rfl rfl ?_;simp +contextual -implicitDefEqProofs only [K11,SS,rA,rS,rL,rE,reduceCtorEq];refine wa (a7D st) rfl rfl ?_;rintro _ _ ⟨rfl,rfl⟩;simp +contextual -implicitDefEqProofs only [K11,SS,rA,rS,rL,rE,reduceCtorEq];exact wb ⟨_,_,rfl,.inl ⟨rfl,rfl⟩,Gr.refl _⟩
 · refine wh (fn:=a11) rfl rfl rfl ?_;simp +contextual -implicitDefEqProofs only [K11,SS,rA,rS,rL,rE,reduceCtorEq];refine wa (a5v i hl) rfl rfl ?_;rintro _ _ ⟨rfl,rfl⟩;simp +contextual -implicitDefEqProofs only [K11,SS,rA,rS,rL,rE,reduceCtorEq];exact wb ⟨_,_,rfl,.inr ⟨_,rfl,a2G st _⟩,Gr.app _ _⟩
theorem b3X {es:List Ent} {i:Nat} (h:i < es.length):(4≤(List.drop (i*4) (g8 es)).length)=True∧List.map AV.weak1 (List.take 4 (List.drop (i*4) (g8 es)))=es[i].row:=by
 have j:=a7x h;rw[R.takeVal_t]at j;split at j
 · rename_i hl;exact⟨by simpa using hl,by simpa using j⟩
 · cases j
def Ent.none:Ent:=⟨[],[],[],[]⟩
def O3 (es:List Ent) (id:List Nat):Option Ent:=if t8 id es then es[B0 id es]? else .none
theorem b6W {es:List Ent} {id:List Nat} {e:Ent} (h:O3 es id=some e):e∈es∧eqN e.id id=true:=by
 unfold O3 at h;split at h
 · rename_i i;unfold t8 at i;rw[h]at i;exact⟨List.mem_of_getElem? h,i⟩
 · cases h
theorem b22 {es:List Ent} {v:AV} {st:St} (z:EntsAt v es st) (hs:y8 es) (hl:es.length≤100000) (id:List Nat):EvQ e7 177 [.agg [v],.str id] st (fun a st'=>st'=st∧a=.tuple [.agg ((O3 es id).getD Ent.none).row,.bool (O3 es id).isSome]):=by
 have j:=a6f z hs hl id;have x:=fun h=>a4y (es:=es) (id:=id) h
 rcases z with⟨rfl,rfl⟩|⟨o,rfl,C⟩
 · refine wh (fn:=a177) rfl rfl rfl ?_;simp +contextual -implicitDefEqProofs only [a8u,SS,rA,rS,rL,rE,reduceCtorEq];refine wa j rfl rfl ?_;rintro _ _ ⟨rfl,rfl⟩;simp +contextual -implicitDefEqProofs only [a8u,SS,rA,rS,rL,rE,reduceCtorEq,show t8 id []=false from rfl,Bool.not_false];exact wb ⟨_,_,rfl,rfl,rfl⟩
 · refine wh (fn:=a177) rfl rfl rfl ?_;simp +contextual -implicitDefEqProofs only [a8u,SS,rA,rS,rL,rE,reduceCtorEq];refine wa j rfl rfl ?_;rintro _ _ ⟨rfl,rfl⟩;unfold O3;rcases s9 (t8 id es)with h|h
   · have l:=x h;obtain⟨u,i⟩:=b3X l;have y:((B0 id es:Int) < (es.length:Int))=True:=by simp; omega
     rw[if_pos h,List.getElem?_eq_getElem l];revert i;generalize es[B0 id es]=e;intro i;have B:e.row=[.str e.t,.str e.id,.list false (e.ks.map r6),.list false (e.ls.map Val.row)]:=rfl;rw[B]at i;simp +contextual -implicitDefEqProofs only [a8u,SS,rA,rS,rL,rE,reduceCtorEq,h,Bool.not_true,y,if_true,C,u,i];exact wb ⟨_,_,rfl,rfl,rfl⟩
   · rw[h,if_neg (by decide)];simp +contextual -implicitDefEqProofs only [a8u,SS,rA,rS,rL,rE,reduceCtorEq,h,Bool.not_false];exact wb ⟨_,_,rfl,rfl,rfl⟩
end Go.Cb.CodeA
