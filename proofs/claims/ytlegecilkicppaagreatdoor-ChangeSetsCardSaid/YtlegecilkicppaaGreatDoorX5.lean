import Derived.Test.YtlegecilkicppaaGreatDoorX4
set_option maxRecDepth 20000
set_option linter.all false
namespace Go.Cb.CodeA
open Go Go.Cb
open Nat renaming reduceAdd→rA,reduceSub→rS,reduceLeDiff→rL,reduceEqDiff→rE
attribute [local congr] F1 H7 L1 K5 H5 H1 O7 N7 V.runR_congr
theorem a4H {e:Ent} {id:List Nat} (h:l6 e.id id=true) (es:List Ent):B0 id (e::es)=B0 id es+1∧t8 id (e::es)=t8 id es:=by
 have i:B0 id (e::es)=B0 id es+1:=by rw[B0,if_pos h]
 refine⟨i,?_⟩;unfold t8;rw[i,List.getElem?_cons_succ]
theorem a4M {e:Ent} {id:List Nat} (h:l6 e.id id=false) (es:List Ent):B0 id (e::es)=0∧t8 id (e::es)=eqN e.id id:=by
 have i:B0 id (e::es)=0:=by rw[B0,h]; rfl
 refine⟨i,?_⟩;unfold t8;rw[i,List.getElem?_cons_zero]
theorem a05 (e:Ent) (es:List Ent) (x:Ent):x9 (e::es) x=if l6 e.id x.id then e::x9 es x else if eqN e.id x.id then x::es else x::e::es:=by
 unfold x9;rcases s9 (l6 e.id x.id)with h|h
 · obtain⟨i,j⟩:=a4H h es;rw[i,j,if_pos h];split
   · rw[List.set_cons_succ]
   · rw[List.take_succ_cons,List.drop_succ_cons]; rfl
 · obtain⟨i,j⟩:=a4M h es;simp only[i,j,h,Bool.false_eq_true,if_false];rfl
theorem a1S (x:Ent):x9 [] x=[x]:=rfl
theorem a7E {es:List Ent} {x y:Ent} (h:y∈x9 es x):y=x∨y∈es:=by
 induction es with
 | nil=>rw[a1S]at h; exact .inl (List.mem_singleton.1 h)
 | cons e es i =>
  rw[a05]at h;split at h
  · rcases List.mem_cons.1 h with h|h
    · exact .inr (h ▸ List.mem_cons_self ..)
    · exact(i h).imp id (List.mem_cons_of_mem _)
  · split at h
    · rcases List.mem_cons.1 h with h|h
      · exact .inl h
      · exact .inr (List.mem_cons_of_mem _ h)
    · exact List.mem_cons.1 h
theorem a7Z {a b c:List Nat} (h:eqN a b=true) (i:l6 a c=true):l6 b c=true:=by rw[← (a2x a b).1 h]; exact i
theorem Y6 {es:List Ent} (hs:y8 es) (x:Ent):y8 (x9 es x):=by
 induction es with
 | nil=>rw[a1S]; exact List.pairwise_singleton _ _
 | cons e es l =>
  rw[a05];obtain⟨i,j⟩:=List.pairwise_cons.1 hs;rcases s9 (l6 e.id x.id)with h|h
  · rw[if_pos h];refine List.pairwise_cons.2 ⟨fun y hy=>?_,l j⟩;rcases a7E hy with rfl|hy
    · exact h
    · exact i y hy
  · rw[if_neg (by rw[h]; decide)];rcases s9 (eqN e.id x.id)with h3|h3
    · rw[if_pos h3];exact List.pairwise_cons.2 ⟨fun y hy=>a7Z h3 (i y hy),j⟩
    · rw[if_neg (by rw[h3]; decide)];have h4:l6 x.id e.id=true:=by
       rcases s9 (l6 x.id e.id)with h4|h4
       · exact h4
       · rw[a5D _ _ h h4,q7]at h3; cases h3
      refine List.pairwise_cons.2 ⟨fun y hy=>?_,hs⟩;rcases List.mem_cons.1 hy with rfl|hy
      · exact h4
      · exact Y5 _ _ _ h4 (i y hy)
theorem b6o (es:List Ent) (x:Ent):(x9 es x).length≤es.length+1:=by
 unfold x9;split
 · rw[List.length_set]; omega
 · simp; omega
def ofE (l:List Ent):List Ent:=l.foldl x9 []
theorem a9Y (l:List Ent) (x:Ent):ofE (l++[x])=x9 (ofE l) x:=by unfold ofE; rw[List.foldl_append]; rfl
theorem b9t {α:Type} {P:List α→Prop} (i:P []) (j:∀ l x,P l→P (l++[x])) (l:List α):P l:=by
 have:∀ m:List α,P m.reverse:=by
  intro m;induction m with
  | nil=>exact i
  | cons x m t=>rw[List.reverse_cons]; exact j _ _ t
 have:=this l.reverse
 rwa [List.reverse_reverse]at this
theorem b6m (l:List Ent):y8 (ofE l)∧(ofE l).length≤l.length∧∀ y∈ofE l,y∈l:=by
 refine b9t (P:=fun l=>y8 (ofE l)∧(ofE l).length≤l.length∧∀ y∈ofE l,y∈l) ⟨List.Pairwise.nil,Nat.le_refl _,fun y hy=>by cases hy⟩ (fun l x t=>?_) l;obtain⟨i,u,j⟩:=t;rw[a9Y];refine⟨Y6 i x,by have:=b6o (ofE l) x; rw[List.length_append]; simp; omega,fun y hy=>?_⟩;rcases a7E hy with rfl|hy
 · exact List.mem_append_right _ (by simp)
 · exact List.mem_append_left _ (j y hy)
theorem c58 {es:List Ent} {i:Nat} (h:i < es.length):(es.map Ent.row)[i]?=some (es[i]).row:=by rw[List.getElem?_map,List.getElem?_eq_getElem h]; rfl
def InOf (st:St) (es:List Ent) (v:AV) (st':St):Prop:=(v=.nils∧es=[]∧st'=st)∨∃ ext:St,v=.sl (st.length+ext.length) 0 es.length 4∧st'=st++(ext++[.cells (g8 es)])
theorem InOf.at {st st':St} {es:List Ent} {v:AV} (h:InOf st es v st'):EntsAt v es st':=by
 rcases h with⟨rfl,rfl,rfl⟩|⟨ext,rfl,rfl⟩
 · exact .inl ⟨rfl,rfl⟩
 · refine .inr ⟨_,rfl,?_⟩;rw[← List.append_assoc,← List.length_append];exact a2G _ _
theorem c2a {i st:St} {es:List Ent} {v:AV} (h:InOf i es v st) (hs:y8 es) (hl:es.length≤100000) (x:Ent):EvQ e7 17 [.agg [v],.agg x.row] st (fun a st'=>∃ j,a=.agg [j]∧InOf i (x9 es x) j st'∧Gr st st') :=
 (a9a h.at hs hl x).mono (by
  rintro _ _ ⟨rfl,rfl⟩;refine⟨_,rfl,.inr ?_,Gr.app _ _⟩;rcases h with⟨rfl,rfl,rfl⟩|⟨ext,rfl,rfl⟩
  · exact⟨a4n .nils [] x,rfl,rfl⟩
  · refine⟨ext++[.cells (g8 es)]++a4n (.sl (i.length+ext.length) 0 es.length 4) es x,?_,?_⟩
    · simp only[List.length_append,Nat.add_assoc]
    · simp only[List.append_assoc])
theorem d6j (l:List Ent) (hl:l.length≤100000) (st:St):EvQ e7 6 [.list false (l.map Ent.row)] st (fun a st'=>∃ v,a=.agg [v]∧InOf st (ofE l) v st'∧Gr st st'):=by
 refine wh (fn:=a6) rfl rfl rfl ?_;simp +contextual -implicitDefEqProofs only [K6,SS,rA,rS,rL,rE,reduceCtorEq,List.length_map];refine we (fun O fr st'=>Gr st st'∧∃ (i:Nat) (v v3:AV),i≤l.length∧O=l.length - i∧InOf st (ofE (l.take i)) v st'∧fr=[.list false (l.map Ent.row),.box [.nils],.box [v],v3,.list false (l.map Ent.row),.int .i64 l.length,.int .i64 i]) (m:=l.length) ⟨Gr.refl st,0,_,_,Nat.zero_le _,rfl,.inl ⟨rfl,rfl,rfl⟩,rfl⟩ ?_;rintro O fr st' ⟨N,i,v,v3,hi,rfl,u,rfl⟩;have S:=u.at;obtain⟨w1,B,F,G,I,J,M⟩:=S.wk;simp +contextual -implicitDefEqProofs only [K6,SS,rA,rS,rL,rE,reduceCtorEq,ltN,w1,B,F,G,I,J,M];by_cases j:i < l.length
 · have e1:=c58 j;have y:ofE (l.take (i+1))=x9 (ofE (l.take i)) l[i]:=by rw[List.take_add_one,List.getElem?_eq_getElem j];exact a9Y _ _
   obtain⟨hs,E,_⟩:=b6m (l.take i);have C:=c2a u hs (by rw[List.length_take]at E; omega) l[i];revert e1 y C;generalize l[i]=x;intro e1 y C;have ex:x.row=[.str x.t,.str x.id,.list false (x.ks.map r6),.list false (x.ls.map Val.row)]:=rfl;rw[ex]at e1 C;simp +contextual -implicitDefEqProofs only [K6,SS,rA,rS,rL,rE,reduceCtorEq,j,e1,w1,B,F,G,I,J,M];refine wa C (by simp only[R.allPlain_c,R.allPlain_n,R.plain_agg]; rfl) (by simp only[List.map_cons,List.map_nil,a0c,B]; rfl) ?_;rintro _ st2 ⟨v',rfl,z,D⟩;obtain⟨T,U,V,W,Y,Z,u7⟩:=z.at.wk;simp +contextual -implicitDefEqProofs only [K6,SS,rA,rS,rL,rE,reduceCtorEq,T,U,V,W,Y,Z,u7,a0z (show i+1 < 2 ^ 63 by omega)];exact wc (m':=l.length - (i+1)) (by omega) ⟨N.trans D,i+1,v',_,j,rfl,y ▸ z,rfl⟩
 · rw[List.take_of_length_le (by omega)]at u;simp +contextual -implicitDefEqProofs only [K6,SS,rA,rS,rL,rE,reduceCtorEq,j];refine wd ?_;simp +contextual -implicitDefEqProofs only [K6,SS,rA,rS,rL,rE,reduceCtorEq,w1,B,F,G,I,J,M];exact wb ⟨_,_,rfl,v,by simp only[List.take_succ_cons,List.take_zero,List.map_cons,List.map_nil,B],u,N⟩
end Go.Cb.CodeA
