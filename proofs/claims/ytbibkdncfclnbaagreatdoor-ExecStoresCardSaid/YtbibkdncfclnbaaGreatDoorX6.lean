import Derived.Test.YtbibkdncfclnbaaGreatDoorX5
set_option maxRecDepth 20000
set_option linter.unusedSimpArgs false
set_option linter.unusedVariables false
namespace Go.Cb.CodeA
open Go Go.Cb
open Nat renaming reduceAdd→rA,reduceSub→rS,reduceLeDiff→rL,reduceEqDiff→rE
attribute [local congr] j1 k8 l5 k9 k4 j9 m0 m2 V.runR_congr
/-- the reference's stores -/
def wR (x:Ent):List Ent→Bool→List Ent
 | [],d=>if d then [] else [x]
 | e::es,d=>(if !d && !g8 e.id x.id then [x] else [])++((if eqN e.id x.id then [] else [e])++wR x es (d || !g8 e.id x.id))
theorem a4U (l:List Ent):l8 4 (l.map Ent.row)=true:=S8 fun r hr=>by
 obtain ⟨v,_,rfl⟩:=List.mem_map.1 hr
 rfl
theorem c7N (a b:List Nat):j3 .geq (.str a) (.str b)=some (.bool !(g8 a b)):=a8 rfl
theorem b4M (x:Ent) (es:List Ent) (hl:es.length≤100000) (st:St):EvQ tbl 36 [.list false (es.map Ent.row),.agg x.row] st (fun a st'=>st'=st∧a=.list false ((wR x es false).map Ent.row)):=by
 have ex:x.row=[.str x.t,.str x.id,.list false (x.ks.map j6),.list false (x.ls.map Val.row)]:=rfl
 rw [ex]
 refine EvQ.body (fn:=a36) rfl rfl rfl ?_
 simp +contextual -implicitDefEqProofs only [K36,SS,rA,rS,rL,rE,reduceCtorEq,List.length_map]
 refine WC.loopR (fun mm fr st'=>st'=st∧∃ (i:Nat) (d:Bool) (acc:List Ent),i≤es.length∧mm=es.length - i∧acc.length≤2*i∧wR x es false=acc++wR x (es.drop i) d∧fr=[.list false (es.map Ent.row),.agg [.str x.t,.str x.id,.list false (x.ks.map j6),.list false (x.ls.map Val.row)],.box [.str x.t,.str x.id,.list false (x.ks.map j6),.list false (x.ls.map Val.row)],.list true [],.list true (acc.map Ent.row),.bool d,.int .i64 i]) (m:=es.length) ⟨rfl,0,false,[],Nat.zero_le _,rfl,Nat.le_refl _,rfl,rfl⟩ ?_
 rintro mm fr st' ⟨rfl,i,d,acc,hi,rfl,hle,hw,rfl⟩
 have hr:=a4U acc
 have hrx:=a4U (acc++[x])
 rw [List.map_append,List.map_cons,List.map_nil,ex] at hrx
 have hacc:acc.length≤200000:=by omega
 have g1:(acc.length+1)*80≤2 ^ 47:=Nat.le_trans (Nat.mul_le_mul_right 80 (show acc.length+1≤200001 by omega)) (by decide)
 have g2:(acc.length+1+1)*80≤2 ^ 47:=Nat.le_trans (Nat.mul_le_mul_right 80 (show acc.length+1+1≤200002 by omega)) (by decide)
 have hinc:=D7 (show i+1 < 2 ^ 63 by omega)
 simp +contextual -implicitDefEqProofs only [K36,SS,rA,rS,rL,rE,reduceCtorEq,List.length_map,ltN]
 by_cases hil:i < es.length
 · have e1:=Z3 hil
   rw [List.drop_eq_getElem_cons hil,wR] at hw
   revert e1 hw
   generalize es[i]=e
   intro hw e1
   have ee:e.row=[.str e.t,.str e.id,.list false (e.ks.map j6),.list false (e.ls.map Val.row)]:=rfl
   rw [ee] at e1
   cases d <;> rcases j5 (g8 e.id x.id) with h|h <;> rcases j5 (eqN e.id x.id) with h2|h2 <;> simp only [h,h2,Bool.not_true,Bool.not_false,Bool.and_false,Bool.and_true,Bool.false_eq_true,if_false,if_true,List.nil_append,Bool.or_true,Bool.or_false,Bool.true_and,Bool.false_and,Bool.true_or,Bool.false_or] at hw <;> simp +contextual -implicitDefEqProofs only [K36,SS,rA,rS,rL,rE,reduceCtorEq,c7N,List.length_map,List.length_append,hil,e1,h,h2,hr,hrx,g1,g2,hinc,Bool.not_true,Bool.not_false,Bool.and_false,Bool.and_true,List.length_singleton]
   · exact WC.next (m':=es.length - (i+1)) (by omega) ⟨rfl,i+1,false,acc,hil,rfl,by omega,hw,rfl⟩
   · exact WC.next (m':=es.length - (i+1)) (by omega) ⟨rfl,i+1,false,acc++[e],hil,rfl,by simp; omega,by rw [hw,List.append_assoc],by rw [List.map_append]; rfl⟩
   · exact WC.next (m':=es.length - (i+1)) (by omega) ⟨rfl,i+1,true,acc++[x],hil,rfl,by simp; omega,by rw [hw,List.append_assoc],by rw [List.map_append]; rfl⟩
   · exact WC.next (m':=es.length - (i+1)) (by omega) ⟨rfl,i+1,true,acc++[x]++[e],hil,rfl,by simp; omega,by rw [hw,List.append_assoc,List.append_assoc],by rw [List.map_append,List.map_append]; rfl⟩
   · exact WC.next (m':=es.length - (i+1)) (by omega) ⟨rfl,i+1,true,acc,hil,rfl,by omega,hw,rfl⟩
   · exact WC.next (m':=es.length - (i+1)) (by omega) ⟨rfl,i+1,true,acc++[e],hil,rfl,by simp; omega,by rw [hw,List.append_assoc],by rw [List.map_append]; rfl⟩
   · exact WC.next (m':=es.length - (i+1)) (by omega) ⟨rfl,i+1,true,acc,hil,rfl,by omega,hw,rfl⟩
   · exact WC.next (m':=es.length - (i+1)) (by omega) ⟨rfl,i+1,true,acc++[e],hil,rfl,by simp; omega,by rw [hw,List.append_assoc],by rw [List.map_append]; rfl⟩
 · rw [List.drop_of_length_le (by omega),wR] at hw
   simp +contextual -implicitDefEqProofs only [K36,SS,rA,rS,rL,rE,reduceCtorEq,hil]
   refine WC.leave ?_
   cases d
   · simp +contextual -implicitDefEqProofs only [K36,SS,rA,rS,rL,rE,reduceCtorEq,List.length_map,hr,g1,Bool.not_false]
     exact WC.ret ⟨_,_,rfl,rfl,by rw [hw,if_neg (by decide),List.map_append]; rfl⟩
   · simp +contextual -implicitDefEqProofs only [K36,SS,rA,rS,rL,rE,reduceCtorEq,List.length_map,hr,g1,Bool.not_true]
     exact WC.ret ⟨_,_,rfl,rfl,by rw [hw,if_pos rfl,List.append_nil]; rfl⟩
/-- behind the place -/
theorem b0Q (x:Ent):∀ es:List Ent,(∀ y∈es,g8 x.id y.id=true)→wR x es true=es
 | [],_=>rfl
 | e::es,h=>by
  have hx:=h e (List.mem_cons_self ..)
  have hn:eqN e.id x.id=false:=by
   rcases j5 (eqN e.id x.id) with h2|h2
   · rw [(O9 _ _).1 h2,O6] at hx; cases hx
   · exact h2
  rw [wR,hn,Bool.true_or,b0Q x es fun y hy=>h y (List.mem_cons_of_mem _ hy)]
  rfl
theorem b0F (x:Ent):∀ es:List Ent,A9 es→wR x es false=C3 es x
 | [],_=>rfl
 | e::es,hs=>by
  obtain ⟨h1,h2⟩:=List.pairwise_cons.1 hs
  rw [wR,a0q]
  rcases j5 (g8 e.id x.id) with h|h
  · have hn:eqN e.id x.id=false:=by
     rcases j5 (eqN e.id x.id) with h3|h3
     · rw [(O9 _ _).1 h3,O6] at h; cases h
     · exact h3
    rw [h,hn,Bool.not_true,Bool.or_false,b0F x es h2]
    rfl
  · have hlt:∀ y∈es,g8 x.id y.id=true:=fun y hy=>by
     rcases j5 (eqN e.id x.id) with h3|h3
     · exact a0x h3 (h1 y hy)
     · have h4:g8 x.id e.id=true:=by
        rcases j5 (g8 x.id e.id) with h4|h4
        · exact h4
        · rw [a0m _ _ h h4,M1] at h3; cases h3
       exact J6 _ _ _ h4 (h1 y hy)
    rw [h,Bool.not_false,Bool.or_true,b0Q x es hlt]
    rcases j5 (eqN e.id x.id) with h3|h3
    · rw [h3]; rfl
    · rw [h3]; rfl
theorem b9h (l:List Ent) (hl:l.length≤100000) (st:St):EvQ tbl 14 [.list false (l.map Ent.row)] st (fun a st'=>st'=st∧a=.list false ((ofE l).map Ent.row)):=by
 refine EvQ.body (fn:=a14) rfl rfl rfl ?_
 simp +contextual -implicitDefEqProofs only [K14,SS,rA,rS,rL,rE,reduceCtorEq,List.length_map]
 refine WC.loopR (fun mm fr st'=>st'=st∧∃ (i:Nat) (o:Bool),i≤l.length∧mm=l.length - i∧fr=[.list false (l.map Ent.row),.list true [],.list o ((ofE (l.take i)).map Ent.row),.int .i64 i]) (m:=l.length) ⟨rfl,0,true,Nat.zero_le _,rfl,rfl⟩ ?_
 rintro mm fr st' ⟨rfl,i,o,hi,rfl,rfl⟩
 simp +contextual -implicitDefEqProofs only [K14,SS,rA,rS,rL,rE,reduceCtorEq,List.length_map,ltN]
 by_cases hil:i < l.length
 · have e1:=Z3 hil
   have hof:ofE (l.take (i+1))=C3 (ofE (l.take i)) l[i]:=by
    rw [List.take_add_one,List.getElem?_eq_getElem hil]
    exact a2N _ _
   obtain ⟨hs,hle,_⟩:=a8S (l.take i)
   have hw:=b4M l[i] (ofE (l.take i)) (by rw [List.length_take] at hle; omega) st'
   rw [b0F _ _ hs] at hw
   revert e1 hof hw
   generalize l[i]=x
   intro e1 hof hw
   have ex:x.row=[.str x.t,.str x.id,.list false (x.ks.map j6),.list false (x.ls.map Val.row)]:=rfl
   rw [ex] at e1 hw
   simp +contextual -implicitDefEqProofs only [K14,SS,rA,rS,rL,rE,reduceCtorEq,hil,e1]
   refine WC.call hw rfl rfl ?_
   rintro _ _ ⟨rfl,rfl⟩
   simp +contextual -implicitDefEqProofs only [K14,SS,rA,rS,rL,rE,reduceCtorEq,D7 (show i+1 < 2 ^ 63 by omega)]
   exact WC.next (m':=l.length - (i+1)) (by omega) ⟨rfl,i+1,false,hil,rfl,by rw [hof]⟩
 · rw [List.take_of_length_le (by omega)]
   simp +contextual -implicitDefEqProofs only [K14,SS,rA,rS,rL,rE,reduceCtorEq,hil]
   refine WC.leave ?_
   simp +contextual -implicitDefEqProofs only [K14,SS,rA,rS,rL,rE,reduceCtorEq]
   exact WC.ret ⟨_,_,rfl,rfl,rfl⟩
/-- all but one -/
def B0 (es:List Ent) (id:List Nat):List Ent:=es.filter fun e=>!eqN e.id id
theorem a9s (es:List Ent) (hl:es.length≤100000) (id:List Nat) (st:St):EvQ tbl 27 [.list false (es.map Ent.row),.str id] st (fun a st'=>st'=st∧a=.list false ((B0 es id).map Ent.row)):=by
 refine EvQ.body (fn:=a27) rfl rfl rfl ?_
 simp +contextual -implicitDefEqProofs only [K27,SS,rA,rS,rL,rE,reduceCtorEq,List.length_map]
 refine WC.loopR (fun mm fr st'=>st'=st∧∃ (i:Nat) (acc:List Ent),i≤es.length∧mm=es.length - i∧acc.length≤i∧B0 es id=acc++B0 (es.drop i) id∧fr=[.list false (es.map Ent.row),.str id,.list true [],.list true (acc.map Ent.row),.int .i64 i]) (m:=es.length) ⟨rfl,0,[],Nat.zero_le _,rfl,Nat.le_refl _,rfl,rfl⟩ ?_
 rintro mm fr st' ⟨rfl,i,acc,hi,rfl,hle,hw,rfl⟩
 have hr:=a4U acc
 have g1:(acc.length+1)*80≤2 ^ 47:=by omega
 have hinc:=D7 (show i+1 < 2 ^ 63 by omega)
 simp +contextual -implicitDefEqProofs only [K27,SS,rA,rS,rL,rE,reduceCtorEq,List.length_map,ltN]
 by_cases hil:i < es.length
 · have e1:=Z3 hil
   rw [List.drop_eq_getElem_cons hil,B0,B0,List.filter_cons] at hw
   revert e1 hw
   generalize es[i]=e
   intro hw e1
   have ee:e.row=[.str e.t,.str e.id,.list false (e.ks.map j6),.list false (e.ls.map Val.row)]:=rfl
   rw [ee] at e1
   rcases j5 (eqN e.id id) with h|h <;> simp only [h,Bool.not_true,Bool.not_false,Bool.false_eq_true,if_false,if_true] at hw <;> simp +contextual -implicitDefEqProofs only [K27,SS,rA,rS,rL,rE,reduceCtorEq,List.length_map,hil,e1,h,hr,g1,hinc,Bool.not_true,Bool.not_false]
   · exact WC.next (m':=es.length - (i+1)) (by omega) ⟨rfl,i+1,acc,hil,rfl,by omega,hw,rfl⟩
   · exact WC.next (m':=es.length - (i+1)) (by omega) ⟨rfl,i+1,acc++[e],hil,rfl,by simp; omega,by rw [B0,hw,List.append_assoc]; rfl,by rw [List.map_append]; rfl⟩
 · rw [List.drop_of_length_le (by omega)] at hw
   simp +contextual -implicitDefEqProofs only [K27,SS,rA,rS,rL,rE,reduceCtorEq,hil]
   refine WC.leave ?_
   simp +contextual -implicitDefEqProofs only [K27,SS,rA,rS,rL,rE,reduceCtorEq]
   exact WC.ret ⟨_,_,rfl,rfl,by rw [hw,show B0 [] id=[] from rfl,List.append_nil]; rfl⟩
end Go.Cb.CodeA
