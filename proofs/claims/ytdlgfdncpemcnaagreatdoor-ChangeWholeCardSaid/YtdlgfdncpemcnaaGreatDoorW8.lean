import Derived.Test.YtdlgfdncpemcnaaGreatDoorW7
set_option maxRecDepth 20000
set_option linter.all false
namespace Go.Cb.CodeA
open Go Go.Cb
open Nat renaming reduceAdd→rA,reduceSub→rS,reduceLeDiff→rL,reduceEqDiff→rE
attribute [local congr] H6 L7 O2 O3 K5 L8 S4 R9 V.runR_congr
theorem b6L {es:List Ent} (hg:∀ e∈es,e.Good) (hl:es.length≤100000) {v u:AV} {st:St} (I:EntsAt v es st) (hu:EntsAt u es st):EvQ e8 13 [v,u] st (fun a st'=>st'=st∧a=.bool true):=by
 by_cases B:es=[]
 · subst B;have F:v=.nils∨∃ o,v=.sl o 0 0 4:=I.imp And.left fun⟨o,h,_⟩=>⟨o,h⟩
   have E:u=.nils∨∃ o,u=.sl o 0 0 4:=hu.imp And.left fun⟨o,h,_⟩=>⟨o,h⟩
   rcases F with rfl|⟨o,rfl⟩<;>rcases E with rfl|⟨p,rfl⟩
   all_goals
    refine wh (fn:=a13) rfl rfl rfl ?_;simp +contextual -implicitDefEqProofs only [K13,SS,rA,rS,rL,rE,reduceCtorEq,show eqI 0 ((0:Nat):Int)=true from rfl,show eqI ((0:Nat):Int) 0=true from rfl,a5q,Bool.not_true];refine we (fun z fr st'=>st'=st∧fr=[_,_,.bool false,.int .i64 0]) (m:=0) ⟨rfl,rfl⟩ ?_;rintro z fr st' ⟨rfl,rfl⟩;simp +contextual -implicitDefEqProofs only [K13,SS,rA,rS,rL,rE,reduceCtorEq,show ltI 0 0=false from rfl,show ltI 0 ((0:Nat):Int)=false from rfl];refine wd ?_;simp +contextual -implicitDefEqProofs only [K13,SS,rA,rS,rL,rE,reduceCtorEq];exact wb ⟨_,_,rfl,rfl,rfl⟩
 · rcases I with⟨_,h⟩|⟨o,rfl,J⟩
   · exact absurd h B
   rcases hu with⟨_,h⟩|⟨p,rfl,M⟩
   · exact absurd h B
   refine wh (fn:=a13) rfl rfl rfl ?_;simp +contextual -implicitDefEqProofs only [K13,SS,rA,rS,rL,rE,reduceCtorEq,List.length_map,a5q,Bool.not_true];refine we (fun z fr st'=>st'=st∧∃ (i:Nat),i≤es.length∧z=es.length - i∧fr=[.sl o 0 es.length 4,.sl p 0 es.length 4,.bool false,.int .i64 i]) (m:=es.length) ⟨rfl,0,Nat.zero_le _,rfl,rfl⟩ ?_;rintro z fr st' ⟨rfl,i,hi,rfl,rfl⟩;simp +contextual -implicitDefEqProofs only [K13,SS,rA,rS,rL,rE,reduceCtorEq,ltN,List.length_map];by_cases l:i < es.length
   · have x:=fun call bx=>a3g J l call bx
     have j:=fun call bx=>a3g M l call bx
     have y:=b5P (hg _ (List.getElem_mem l)) st';have D:((i:Int) < (es.length:Int))=True:=by simp; omega
     revert x j y;generalize es[i]=e;intro x j y;have G:e.row=[.str e.t,.str e.id,.list false (e.ks.map m3),.list false (e.ls.map Val.row)]:=rfl;rw[G]at y;simp only[G]at x j;simp +contextual -implicitDefEqProofs only [K13,SS,rA,rS,rL,rE,reduceCtorEq,l,x,j,D,if_true];refine wa y rfl rfl ?_;rintro _ _ ⟨rfl,rfl⟩;simp +contextual -implicitDefEqProofs only [K13,SS,rA,rS,rL,rE,reduceCtorEq,Bool.not_true,a0X (show i+1 < 2 ^ 63 by omega)];exact wc (m':=es.length - (i+1)) (by omega) ⟨rfl,i+1,l,rfl,rfl⟩
   · simp +contextual -implicitDefEqProofs only [K13,SS,rA,rS,rL,rE,reduceCtorEq,l];refine wd ?_;simp +contextual -implicitDefEqProofs only [K13,SS,rA,rS,rL,rE,reduceCtorEq];exact wb ⟨_,_,rfl,rfl,rfl⟩
theorem EvQ.ofQ {f:Nat} {as:List AV} {st:St} {P:AV→St→Prop} (h:EvQ e8 f as st P):EvQ tbl f as st P:=let ⟨r,st',h,hp⟩:=h; ⟨r,st',Ev.ofQ h,hp⟩
theorem c2A (st:St):EvQ tbl 9 [] st (fun a st'=>a=.agg [.int .u8 6,.int .i64 0,.str [],.list false [],.list false []]∧st'=st):=by have h:Ev tbl 9 [] [] (.agg [.int .u8 6,.int .i64 0,.str [],.list false [],.list false []]) []:=Go.Cb.G.ev_ofG (k:=100) (by kernel_rfl);have i:=Ev.sh a00 (L:=0) st (Nat.zero_le _) h;rw[show shS 0 st []=st by simp[shS]]at i;exact EvQ.of_ev i ⟨rfl,rfl⟩
theorem f9r (l:List Thg) (h:∀ x∈l,x.OK) (d n:Int) (hd:0≤d) (hn:-32768≤n∧n≤32767):EvQ tbl 4 [.list false (l.map Thg.row),.int .u8 d,.int .i16 n] [] (fun a st'=>a=.bool true):=by
 have hm:MOK n:=⟨by omega,by omega⟩;refine wh (fn:=a4) rfl rfl rfl ?_;simp +contextual -implicitDefEqProofs only [K4,SS,rA,rS,rL,rE,reduceCtorEq];refine wa (EvQ.of_ev (Go.Cb.G.ev_ofG g64) (Q:=fun a st'=>a=b7b∧st'=T_aw) ⟨rfl,rfl⟩) rfl rfl ?_;rintro _ _ ⟨rfl,rfl⟩;simp +contextual -implicitDefEqProofs only [K4,SS,rA,rS,rL,rE,reduceCtorEq,b7b,Bool.not_true];refine wa (EvQ.of_ev d3z (Q:=fun a st'=>a=R_b0.sh 0 130∧st'=T_bb) ⟨rfl,rfl⟩) rfl rfl ?_;rintro _ _ ⟨rfl,rfl⟩;rw[show R_b0.sh 0 130=.tuple [.ptr 132 0,.ptr 160 0]by kernel_rfl];simp +contextual -implicitDefEqProofs only [K4,SS,rA,rS,rL,rE,reduceCtorEq];refine wa (EvQ.ofQ (b76 l h T_bb)) rfl rfl ?_;rintro _ _ ⟨rfl,es,rfl,b1,Z⟩;simp +contextual -implicitDefEqProofs only [K4,SS,rA,rS,rL,rE,reduceCtorEq];refine wa (EvQ.ofQ (g8O es (by omega) T_bb)) rfl rfl ?_;rintro _ B ⟨v,rfl,N,-⟩;obtain⟨b0,b2,a3⟩:=b5n es;have M:∀ e∈ofE es,e.Good:=fun e he=>Z e (a3 e he)
 obtain⟨w1,u,D,E,y,F,I⟩:=N.at.wk;have U:=a8F (x:=⟨0,d,0,[],[],0⟩) ⟨hd,by simp,(show(-9223372036854775808:Int)≤0∧(0:Int) < 9223372036854775808 by decide),Nat.zero_le _⟩ B;simp +contextual -implicitDefEqProofs only [K4,SS,rA,rS,rL,rE,reduceCtorEq,w1,u,D,E,y,F,I];refine wa (EvQ.ofQ U) rfl rfl ?_;rintro _ st2 ⟨j,J,rfl,-,hid⟩;replace j:=j.symm;subst j;have ee:J.row=[.str J.t,.str J.id,.list false (J.ks.map m3),.list false (J.ls.map Val.row)]:=rfl;rw[ee,hid];have hX:=a7i d;generalize idS d=X at hX;simp +contextual -implicitDefEqProofs only [K4,SS,rA,rS,rL,rE,reduceCtorEq,w1,u,D,E,y,F,I];refine wa (c2A B) rfl rfl ?_;rintro _ st2 ⟨rfl,j⟩;replace j:=j.symm;subst j;simp +contextual -implicitDefEqProofs only [K4,SS,rA,rS,rL,rE,reduceCtorEq,w1,u,D,E,y,F,I,w64 hm,Nat.reduceLT,if_true,if_false,Option.map_some];have z:∃ (ks vs:List (List AV)) (a b c:Nat) (st':St),Ev tbl 8 [.ptr 132 0,.agg [v],W.txtW,a4n n X] B (a5l v ks vs a b c) st'∧EntsAt v (ofE es) st':=by
  rcases N with⟨rfl,h0,rfl⟩|⟨ext,rfl,rfl⟩
  · obtain⟨ks,vs,a,b,c,st',h⟩:=c7F hX hm;exact⟨ks,vs,a,b,c,st',h,.inl ⟨rfl,h0⟩⟩
  · obtain⟨ks,vs,a,b,c,st',h,j⟩:=f3M ext b0 (by omega) M hX hm;rw[show T_bb.length=161 by kernel_rfl];exact⟨ks,vs,a,b,c,st',h,.inr ⟨_,rfl,j⟩⟩
 obtain⟨ks,vs,a,b,c,st',z,T⟩:=z;refine wa (EvQ.of_ev z (Q:=fun r s=>r=a5l v ks vs a b c∧s=st') ⟨rfl,rfl⟩) (by simp only[m8,y,R.allPlain_c,R.allPlain_n,R.plain_agg]; rfl) (by simp only[List.map_cons,List.map_nil,a1j,u]; rfl) ?_;rintro _ _ ⟨rfl,rfl⟩;have a0:ltI 0 ((b+1:Nat):Int)=true:=by rw[ltI_eq]; exact decide_eq_true (by omega)
 unfold a5l;simp +contextual -implicitDefEqProofs only [K4,SS,rA,rS,rL,rE,reduceCtorEq,w1,u,D,E,y,F,I,a0,show eqI 0 0=true from rfl,Nat.reduceLT,if_true,if_false];have i:(ofE es).length≤100000:=by omega
 refine wa (EvQ.ofQ (c0w i T)) (by simp only[m8,y,R.allPlain_c,R.allPlain_n,R.plain_agg]; rfl) (by simp only[List.map_cons,List.map_nil,a1j,u]) ?_;rintro a1 s1 ⟨O,V⟩;obtain⟨x1,x2,x3,x4,x5,x6,x7⟩:=O.wk;simp +contextual -implicitDefEqProofs only [K4,SS,rA,rS,rL,rE,reduceCtorEq,w1,u,D,E,y,F,I,x1,x2,x3,x4,x5,x6,x7];refine wa (EvQ.ofQ (c0w i (T.gr V))) (by simp only[m8,y,R.allPlain_c,R.allPlain_n,R.plain_agg]; rfl) (by simp only[List.map_cons,List.map_nil,a1j,u]) ?_;rintro a2 s2 ⟨S,Y⟩;obtain⟨y1,y2,y3,y4,y5,y6,y7⟩:=S.wk;simp +contextual -implicitDefEqProofs only [K4,SS,rA,rS,rL,rE,reduceCtorEq,w1,u,D,E,y,F,I,x1,x2,x3,x4,x5,x6,x7,y1,y2,y3,y4,y5,y6,y7];refine wa (EvQ.ofQ (b6L M i (O.gr Y) S)) (by simp only[m8,x5,y5,R.allPlain_c,R.allPlain_n]; rfl) (by simp only[List.map_cons,List.map_nil,x1,y1,x2,y2]) ?_;rintro _ _ ⟨rfl,rfl⟩;simp +contextual -implicitDefEqProofs only [K4,SS,rA,rS,rL,rE,reduceCtorEq];exact wb ⟨_,_,rfl,rfl⟩
theorem c0l (l:List Thg) (h:∀ x∈l,x.OK) (d n:Int) (i:0≤d) (j:-32768≤n∧n≤32767):∃ k st',j9 tbl k 4 [.list false (l.map Thg.row),.int .u8 d,.int .i16 n] []=some (.bool true,st'):=by obtain⟨r,st',⟨k,hk⟩,rfl⟩:=f9r l h d n i j;exact⟨k,st',hk⟩
end Go.Cb.CodeA
