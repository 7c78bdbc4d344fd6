/- What functions of the abstract machine answer. No conditions but those that each theorem names. -/
import Derived.Test.YtbibkdncfclnbaaGreatDoorX4
set_option maxRecDepth 20000
set_option linter.unusedSimpArgs false
set_option linter.unusedVariables false
namespace Go.Cb.CodeA
open Go Go.Cb
open Nat renaming reduceAdd→rA,reduceSub→rS,reduceLeDiff→rL,reduceEqDiff→rE
attribute [local congr] j1 k8 l5 k9 k4 j9 m0 m2 V.runR_congr
theorem a4T {e:Ent} {id:List Nat} (h:g8 e.id id=true) (es:List Ent):n7 id (e::es)=n7 id es+1∧C1 id (e::es)=C1 id es:=by
 have hp:n7 id (e::es)=n7 id es+1:=by rw [n7,if_pos h]
 refine ⟨hp,?_⟩
 unfold C1
 rw [hp,List.getElem?_cons_succ]
theorem a4S {e:Ent} {id:List Nat} (h:g8 e.id id=false) (es:List Ent):n7 id (e::es)=0∧C1 id (e::es)=eqN e.id id:=by
 have hp:n7 id (e::es)=0:=by rw [n7,h]; rfl
 refine ⟨hp,?_⟩
 unfold C1
 rw [hp,List.getElem?_cons_zero]
theorem a0q (e:Ent) (es:List Ent) (x:Ent):C3 (e::es) x=if g8 e.id x.id then e::C3 es x else if eqN e.id x.id then x::es else x::e::es:=by
 unfold C3
 rcases j5 (g8 e.id x.id) with h|h
 · obtain ⟨h1,h2⟩:=a4T h es
   rw [h1,h2,if_pos h]
   split
   · rw [List.set_cons_succ]
   · rw [List.take_succ_cons,List.drop_succ_cons]; rfl
 · obtain ⟨h1,h2⟩:=a4S h es
   simp only [h1,h2,h,Bool.false_eq_true,if_false]
   rfl
theorem a5g (x:Ent):C3 [] x=[x]:=rfl
theorem a5G {es:List Ent} {x y:Ent} (h:y∈C3 es x):y=x∨y∈es:=by
 induction es with
 | nil=>rw [a5g] at h; exact .inl (List.mem_singleton.1 h)
 | cons e es ih =>
  rw [a0q] at h
  split at h
  · rcases List.mem_cons.1 h with h|h
    · exact .inr (h ▸ List.mem_cons_self ..)
    · exact (ih h).imp id (List.mem_cons_of_mem _)
  · split at h
    · rcases List.mem_cons.1 h with h|h
      · exact .inl h
      · exact .inr (List.mem_cons_of_mem _ h)
    · exact List.mem_cons.1 h
theorem a0x {a b c:List Nat} (h:eqN a b=true) (h2:g8 a c=true):g8 b c=true:=by rw [← (O9 a b).1 h]; exact h2
theorem a8Q {es:List Ent} (hs:A9 es) (x:Ent):A9 (C3 es x):=by
 induction es with
 | nil=>rw [a5g]; exact List.pairwise_singleton _ _
 | cons e es ih =>
  rw [a0q]
  obtain ⟨h1,h2⟩:=List.pairwise_cons.1 hs
  rcases j5 (g8 e.id x.id) with h|h
  · rw [if_pos h]
    refine List.pairwise_cons.2 ⟨fun y hy=>?_,ih h2⟩
    rcases a5G hy with rfl|hy
    · exact h
    · exact h1 y hy
  · rw [if_neg (by rw [h]; decide)]
    rcases j5 (eqN e.id x.id) with h3|h3
    · rw [if_pos h3]
      exact List.pairwise_cons.2 ⟨fun y hy=>a0x h3 (h1 y hy),h2⟩
    · rw [if_neg (by rw [h3]; decide)]
      have h4:g8 x.id e.id=true:=by
       rcases j5 (g8 x.id e.id) with h4|h4
       · exact h4
       · rw [a0m _ _ h h4,M1] at h3; cases h3
      refine List.pairwise_cons.2 ⟨fun y hy=>?_,hs⟩
      rcases List.mem_cons.1 hy with rfl|hy
      · exact h4
      · exact J6 _ _ _ h4 (h1 y hy)
theorem b3n (es:List Ent) (x:Ent):(C3 es x).length≤es.length+1:=by
 unfold C3
 split
 · rw [List.length_set]; omega
 · simp; omega
def ofE (l:List Ent):List Ent:=l.foldl C3 []
theorem a2N (l:List Ent) (x:Ent):ofE (l++[x])=C3 (ofE l) x:=by unfold ofE; rw [List.foldl_append]; rfl
theorem b5K {α:Type} {P:List α→Prop} (h0:P []) (h1:∀ l x,P l→P (l++[x])) (l:List α):P l:=by
 have:∀ m:List α,P m.reverse:=by
  intro m
  induction m with
  | nil=>exact h0
  | cons x m ih=>rw [List.reverse_cons]; exact h1 _ _ ih
 have:=this l.reverse
 rwa [List.reverse_reverse] at this
theorem a8S (l:List Ent):A9 (ofE l)∧(ofE l).length≤l.length∧∀ y∈ofE l,y∈l:=by
 refine b5K (P:=fun l=>A9 (ofE l)∧(ofE l).length≤l.length∧∀ y∈ofE l,y∈l) ⟨List.Pairwise.nil,Nat.le_refl _,fun y hy=>by cases hy⟩ (fun l x ih=>?_) l
 obtain ⟨h1,h2,h3⟩:=ih
 rw [a2N]
 refine ⟨a8Q h1 x,by have:=b3n (ofE l) x; rw [List.length_append]; simp; omega,fun y hy=>?_⟩
 rcases a5G hy with rfl|hy
 · exact List.mem_append_right _ (by simp)
 · exact List.mem_append_left _ (h3 y hy)
theorem Z3 {es:List Ent} {i:Nat} (h:i < es.length):(es.map Ent.row)[i]?=some (es[i]).row:=by
 rw [List.getElem?_map,List.getElem?_eq_getElem h]; rfl
theorem d1i (l:List Ent) (hl:l.length≤100000) (st:St):EvQ tbl 18 [.list false (l.map Ent.row)] st (fun a st'=>∃ v,a=.agg [v]∧EntsAt v (ofE l) st'∧Gr st st'):=by
 refine EvQ.body (fn:=a18) rfl rfl rfl ?_
 simp +contextual -implicitDefEqProofs only [K18,SS,rA,rS,rL,rE,reduceCtorEq,List.length_map]
 refine WC.loopR (fun mm fr st'=>Gr st st'∧∃ (i:Nat) (v v3:AV),i≤l.length∧mm=l.length - i∧EntsAt v (ofE (l.take i)) st'∧fr=[.list false (l.map Ent.row),.box [.nils],.box [v],v3,.list false (l.map Ent.row),.int .i64 l.length,.int .i64 i]) (m:=l.length) ⟨Gr.refl st,0,_,_,Nat.zero_le _,rfl,.inl ⟨rfl,rfl⟩,rfl⟩ ?_
 rintro mm fr st' ⟨hg,i,v,v3,hi,rfl,hv,rfl⟩
 obtain ⟨w1,w2,w3,w4,w5,w6,w7⟩:=hv.wk
 simp +contextual -implicitDefEqProofs only [K18,SS,rA,rS,rL,rE,reduceCtorEq,ltN,w1,w2,w3,w4,w5,w6,w7]
 by_cases hil:i < l.length
 · have e1:=Z3 hil
   have hof:ofE (l.take (i+1))=C3 (ofE (l.take i)) l[i]:=by
    rw [List.take_add_one,List.getElem?_eq_getElem hil]
    exact a2N _ _
   obtain ⟨hs,hle,_⟩:=a8S (l.take i)
   have hw:=c1v hv hs (by rw [List.length_take] at hle; omega) l[i]
   revert e1 hof hw
   generalize l[i]=x
   intro e1 hof hw
   have ex:x.row=[.str x.t,.str x.id,.list false (x.ks.map j6),.list false (x.ls.map Val.row)]:=rfl
   rw [ex] at e1 hw
   simp +contextual -implicitDefEqProofs only [K18,SS,rA,rS,rL,rE,reduceCtorEq,hil,e1,w1,w2,w3,w4,w5,w6,w7]
   refine WC.call hw (by simp only [R.allPlain_c,R.allPlain_n,R.plain_agg]; rfl) (by simp only [List.map_cons,List.map_nil,G3,w2]; rfl) ?_
   rintro _ st2 ⟨v',rfl,hv',hg'⟩
   obtain ⟨u1,u2,u3,u4,u5,u6,u7⟩:=hv'.wk
   simp +contextual -implicitDefEqProofs only [K18,SS,rA,rS,rL,rE,reduceCtorEq,u1,u2,u3,u4,u5,u6,u7,D7 (show i+1 < 2 ^ 63 by omega)]
   exact WC.next (m':=l.length - (i+1)) (by omega) ⟨hg.trans hg',i+1,v',_,hil,rfl,hof ▸ hv',rfl⟩
 · rw [List.take_of_length_le (by omega)] at hv
   simp +contextual -implicitDefEqProofs only [K18,SS,rA,rS,rL,rE,reduceCtorEq,hil]
   refine WC.leave ?_
   simp +contextual -implicitDefEqProofs only [K18,SS,rA,rS,rL,rE,reduceCtorEq,w1,w2,w3,w4,w5,w6,w7]
   exact WC.ret ⟨_,_,rfl,v,by simp only [List.take_succ_cons,List.take_zero,List.map_cons,List.map_nil,w2],hv,hg⟩
end Go.Cb.CodeA
