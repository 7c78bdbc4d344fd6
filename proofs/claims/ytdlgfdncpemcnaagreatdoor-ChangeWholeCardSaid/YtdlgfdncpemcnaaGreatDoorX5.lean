import Derived.Test.YtdlgfdncpemcnaaGreatDoorX4
set_option maxRecDepth 20000
set_option linter.all false
namespace Go.Cb.CodeA
open Go Go.Cb
open Nat renaming reduceAdd→rA,reduceSub→rS,reduceLeDiff→rL,reduceEqDiff→rE
attribute [local congr] H6 L7 O2 O3 K5 L8 S4 R9 V.runR_congr
theorem a7m {e:Ent} {id:List Nat} (h:l5 e.id id=true) (es:List Ent):C1 id (e::es)=C1 id es+1∧D4 id (e::es)=D4 id es:=by
 have i:C1 id (e::es)=C1 id es+1:=by rw[C1,if_pos h]
 refine⟨i,?_⟩;unfold D4;rw[i,List.getElem?_cons_succ]
theorem a7v {e:Ent} {id:List Nat} (h:l5 e.id id=false) (es:List Ent):C1 id (e::es)=0∧D4 id (e::es)=eqN e.id id:=by
 have i:C1 id (e::es)=0:=by rw[C1,h]; rfl
 refine⟨i,?_⟩;unfold D4;rw[i,List.getElem?_cons_zero]
theorem a0Q (e:Ent) (es:List Ent) (x:Ent):i8 (e::es) x=if l5 e.id x.id then e::i8 es x else if eqN e.id x.id then x::es else x::e::es:=by
 unfold i8;rcases D8 (l5 e.id x.id)with h|h
 · obtain⟨i,j⟩:=a7m h es;rw[i,j,if_pos h];split
   · rw[List.set_cons_succ]
   · rw[List.take_succ_cons,List.drop_succ_cons]; rfl
 · obtain⟨i,j⟩:=a7v h es;simp only[i,j,h,Bool.false_eq_true,if_false];rfl
theorem a1C (x:Ent):i8 [] x=[x]:=rfl
theorem a7S {es:List Ent} {x y:Ent} (h:y∈i8 es x):y=x∨y∈es:=by
 induction es with
 | nil=>rw[a1C]at h; exact .inl (List.mem_singleton.1 h)
 | cons e es i =>
  rw[a0Q]at h;split at h
  · rcases List.mem_cons.1 h with h|h
    · exact .inr (h ▸ List.mem_cons_self ..)
    · exact(i h).imp id (List.mem_cons_of_mem _)
  · split at h
    · rcases List.mem_cons.1 h with h|h
      · exact .inl h
      · exact .inr (List.mem_cons_of_mem _ h)
    · exact List.mem_cons.1 h
theorem a8s {a b c:List Nat} (h:eqN a b=true) (i:l5 a c=true):l5 b c=true:=by rw[← (a2n a b).1 h]; exact i
theorem r6 {es:List Ent} (hs:C9 es) (x:Ent):C9 (i8 es x):=by
 induction es with
 | nil=>rw[a1C]; exact List.pairwise_singleton _ _
 | cons e es l =>
  rw[a0Q];obtain⟨i,j⟩:=List.pairwise_cons.1 hs;rcases D8 (l5 e.id x.id)with h|h
  · rw[if_pos h];refine List.pairwise_cons.2 ⟨fun y hy=>?_,l j⟩;rcases a7S hy with rfl|hy
    · exact h
    · exact i y hy
  · rw[if_neg (by rw[h]; decide)];rcases D8 (eqN e.id x.id)with h3|h3
    · rw[if_pos h3];exact List.pairwise_cons.2 ⟨fun y hy=>a8s h3 (i y hy),j⟩
    · rw[if_neg (by rw[h3]; decide)];have h4:l5 x.id e.id=true:=by
       rcases D8 (l5 x.id e.id)with h4|h4
       · exact h4
       · rw[a2H _ _ h h4,P5]at h3; cases h3
      refine List.pairwise_cons.2 ⟨fun y hy=>?_,hs⟩;rcases List.mem_cons.1 hy with rfl|hy
      · exact h4
      · exact T8 _ _ _ h4 (i y hy)
theorem b6y (es:List Ent) (x:Ent):(i8 es x).length≤es.length+1:=by
 unfold i8;split
 · rw[List.length_set]; omega
 · simp; omega
def ofE (l:List Ent):List Ent:=l.foldl i8 []
theorem a9n (l:List Ent) (x:Ent):ofE (l++[x])=i8 (ofE l) x:=by unfold ofE; rw[List.foldl_append]; rfl
theorem b7U {α:Type} {P:List α→Prop} (i:P []) (j:∀ l x,P l→P (l++[x])) (l:List α):P l:=by
 have:∀ m:List α,P m.reverse:=by
  intro m;induction m with
  | nil=>exact i
  | cons x m t=>rw[List.reverse_cons]; exact j _ _ t
 have:=this l.reverse
 rwa [List.reverse_reverse]at this
theorem b5n (l:List Ent):C9 (ofE l)∧(ofE l).length≤l.length∧∀ y∈ofE l,y∈l:=by
 refine b7U (P:=fun l=>C9 (ofE l)∧(ofE l).length≤l.length∧∀ y∈ofE l,y∈l) ⟨List.Pairwise.nil,Nat.le_refl _,fun y hy=>by cases hy⟩ (fun l x t=>?_) l;obtain⟨i,u,j⟩:=t;rw[a9n];refine⟨r6 i x,by have:=b6y (ofE l) x; rw[List.length_append]; simp; omega,fun y hy=>?_⟩;rcases a7S hy with rfl|hy
 · exact List.mem_append_right _ (by simp)
 · exact List.mem_append_left _ (j y hy)
theorem d5g {es:List Ent} {i:Nat} (h:i < es.length):(es.map Ent.row)[i]?=some (es[i]).row:=by rw[List.getElem?_map,List.getElem?_eq_getElem h]; rfl
def InOf (st:St) (es:List Ent) (v:AV) (st':St):Prop:=(v=.nils∧es=[]∧st'=st)∨∃ ext:St,v=.sl (st.length+ext.length) 0 es.length 4∧st'=st++(ext++[.cells (e9 es)])
theorem InOf.at {st st':St} {es:List Ent} {v:AV} (h:InOf st es v st'):EntsAt v es st':=by
 rcases h with⟨rfl,rfl,rfl⟩|⟨ext,rfl,rfl⟩
 · exact .inl ⟨rfl,rfl⟩
 · refine .inr ⟨_,rfl,?_⟩;rw[← List.append_assoc,← List.length_append];exact a4z _ _
theorem c1h {i st:St} {es:List Ent} {v:AV} (h:InOf i es v st) (hs:C9 es) (hl:es.length≤100000) (x:Ent):EvQ e8 18 [.agg [v],.agg x.row] st (fun a st'=>∃ j,a=.agg [j]∧InOf i (i8 es x) j st'∧Gr st st') :=
 (b0z h.at hs hl x).mono (by
  rintro _ _ ⟨rfl,rfl⟩;refine⟨_,rfl,.inr ?_,Gr.app _ _⟩;rcases h with⟨rfl,rfl,rfl⟩|⟨ext,rfl,rfl⟩
  · exact⟨a4m .nils [] x,rfl,rfl⟩
  · refine⟨ext++[.cells (e9 es)]++a4m (.sl (i.length+ext.length) 0 es.length 4) es x,?_,?_⟩
    · simp only[List.length_append,Nat.add_assoc]
    · simp only[List.append_assoc])
theorem g8O (l:List Ent) (hl:l.length≤100000) (st:St):EvQ e8 7 [.list false (l.map Ent.row)] st (fun a st'=>∃ v,a=.agg [v]∧InOf st (ofE l) v st'∧Gr st st'):=by
 refine wh (fn:=a7) rfl rfl rfl ?_;simp +contextual -implicitDefEqProofs only [K7,SS,rA,rS,rL,rE,reduceCtorEq,List.length_map];refine we (fun S fr st'=>Gr st st'∧∃ (i:Nat) (v v3:AV),i≤l.length∧S=l.length - i∧InOf st (ofE (l.take i)) v st'∧fr=[.list false (l.map Ent.row),.box [.nils],.box [v],v3,.list false (l.map Ent.row),.int .i64 l.length,.int .i64 i]) (m:=l.length) ⟨Gr.refl st,0,_,_,Nat.zero_le _,rfl,.inl ⟨rfl,rfl,rfl⟩,rfl⟩ ?_;rintro S fr st' ⟨hg,i,v,v3,hi,rfl,u,rfl⟩;have T:=u.at;obtain⟨w1,B,I,J,M,N,O⟩:=T.wk;simp +contextual -implicitDefEqProofs only [K7,SS,rA,rS,rL,rE,reduceCtorEq,ltN,w1,B,I,J,M,N,O];by_cases j:i < l.length
 · have D:=d5g j;have y:ofE (l.take (i+1))=i8 (ofE (l.take i)) l[i]:=by rw[List.take_add_one,List.getElem?_eq_getElem j];exact a9n _ _
   obtain⟨hs,G,_⟩:=b5n (l.take i);have E:=c1h u hs (by rw[List.length_take]at G; omega) l[i];revert D y E;generalize l[i]=x;intro D y E;have ex:x.row=[.str x.t,.str x.id,.list false (x.ks.map m3),.list false (x.ls.map Val.row)]:=rfl;rw[ex]at D E;simp +contextual -implicitDefEqProofs only [K7,SS,rA,rS,rL,rE,reduceCtorEq,j,D,w1,B,I,J,M,N,O];refine wa E (by simp only[R.allPlain_c,R.allPlain_n,R.plain_agg]; rfl) (by simp only[List.map_cons,List.map_nil,a1j,B]; rfl) ?_;rintro _ st2 ⟨v',rfl,z,F⟩;obtain⟨U,V,W,Y,Z,u6,u7⟩:=z.at.wk;simp +contextual -implicitDefEqProofs only [K7,SS,rA,rS,rL,rE,reduceCtorEq,U,V,W,Y,Z,u6,u7,a0X (show i+1 < 2 ^ 63 by omega)];exact wc (m':=l.length - (i+1)) (by omega) ⟨hg.trans F,i+1,v',_,j,rfl,y ▸ z,rfl⟩
 · rw[List.take_of_length_le (by omega)]at u;simp +contextual -implicitDefEqProofs only [K7,SS,rA,rS,rL,rE,reduceCtorEq,j];refine wd ?_;simp +contextual -implicitDefEqProofs only [K7,SS,rA,rS,rL,rE,reduceCtorEq,w1,B,I,J,M,N,O];exact wb ⟨_,_,rfl,v,by simp only[List.take_succ_cons,List.take_zero,List.map_cons,List.map_nil,B],u,hg⟩
end Go.Cb.CodeA
