import Derived.Test.YtlegecilkicppaaGreatDoorX7
set_option maxRecDepth 20000
set_option linter.all false
namespace Go.Cb.CodeA
open Go Go.Cb
open Nat renaming reduceAdd→rA,reduceSub→rS,reduceLeDiff→rL,reduceEqDiff→rE
attribute [local congr] F1 H7 L1 K5 H5 H1 O7 N7 V.runR_congr
def R1 (es:List Ent) (id:List Nat):List Ent:=es.filter fun e=>!eqN e.id id
theorem a6S {id:List Nat}:∀ {es:List Ent},(∀ y∈es,eqN y.id id=false)→R1 es id=es
 | [],_=>rfl
 | e::es,h=>by
  rw[R1,List.filter_cons,h e (List.mem_cons_self ..)];have i:=a6S (es:=es) fun y j=>h y (List.mem_cons_of_mem _ j)
  rw[R1]at i;simp[i]
theorem a5j {a b:List Nat} (h:l6 a b=true):eqN b a=false:=by
 rcases s9 (eqN b a)with h2|h2
 · rw[(a2x _ _).1 h2,a0o]at h; cases h
 · exact h2
theorem a8P {a b:List Nat} (h:l6 a b=true):eqN a b=false:=by
 rcases s9 (eqN a b)with h2|h2
 · rw[(a2x _ _).1 h2,a0o]at h; cases h
 · exact h2
theorem b0C (id:List Nat):∀ {es:List Ent},y8 es→R1 es id=if t8 id es then es.take (B0 id es)++es.drop (B0 id es+1)else es
 | [],_=>rfl
 | e::es,hs=>by
  obtain⟨j,l⟩:=List.pairwise_cons.1 hs;have t:R1 (e::es) id=if !eqN e.id id then e::R1 es id else R1 es id:=by rw[R1,List.filter_cons]; rfl
  rw[t];rcases s9 (l6 e.id id)with h|h
  · obtain⟨p1,p2⟩:=a4H h es;rw[p1,p2,a8P h,b0C id l];cases t8 id es<;>rfl
  · obtain⟨p1,p2⟩:=a4M h es;rw[p1,p2];have key:∀ y∈es,eqN y.id id=false:=fun y u=>by
     have i:=j y u;rcases s9 (eqN e.id id)with h3|h3
     · rw[← (a2x _ _).1 h3]; exact a5j i
     · have h4:l6 id e.id=true:=by
        rcases s9 (l6 id e.id)with h4|h4
        · exact h4
        · rw[a5D _ _ h h4,q7]at h3; cases h3
       exact a5j (Y5 _ _ _ h4 i)
    rw[a6S key];cases eqN e.id id<;>rfl
theorem d26 {es:List Ent} {o:Nat} {st:St} (h:st[o]?=some (.cells (g8 es))) (hl:es.length≤100000) {i:Nat} (hi:i < es.length):EvQ e7 24 [.sl o 0 es.length 4,.int .i64 i,.int .i64 ((i+1:Nat):Int)] st (fun a st'=>a=.sl st.length 0 (es.length - 1) 4∧st'=st.set o .dead++[.cells (g8 (es.take i++es.drop (i+1)))]):=by refine EvQ.of_ext (fn:=a24) (e:=U1 4 80) (r:=(.sl st.length 0 (es.length - 1) 4,st.set o .dead++[.cells (g8 (es.take i++es.drop (i+1)))])) rfl rfl ?_ ⟨rfl,rfl⟩;simp only[U1,h];rw[if_pos ⟨trivial,by omega,by omega,by omega,Y1 es,by omega⟩,Int.toNat_natCast,U7,a1Z,a0B,a3n,List.map_append,a1w,a1w]
theorem a7X {es:List Ent} {o:Nat} {st:St} (t:st[o]?=some (.cells (g8 es))) (hs:y8 es) (hl:es.length≤100000) {id:List Nat} (j:t8 id es=true):EvQ e7 12 [.agg [.sl o 0 es.length 4],.str id] st (fun a st'=>a=.agg [.sl (st.length+1) 0 (es.length - 1) 4]∧st'=st++[.dead,.cells (g8 (R1 es id))]):=by
 have i:=a6f (.inr ⟨o,rfl,t⟩) hs hl id;have l:=a4y j;rw[b0C id hs,if_pos j];refine wh (fn:=a12) rfl rfl rfl ?_;simp +contextual -implicitDefEqProofs only [K12,SS,rA,rS,rL,rE,reduceCtorEq];refine wa i rfl rfl ?_;rintro _ st ⟨rfl,rfl⟩;simp +contextual -implicitDefEqProofs only [K12,SS,rA,rS,rL,rE,reduceCtorEq,j,Bool.not_true];refine wa (a5v t hl) rfl rfl ?_;rintro _ _ ⟨rfl,rfl⟩;simp +contextual -implicitDefEqProofs only [K12,SS,rA,rS,rL,rE,reduceCtorEq,a0z (show B0 id es+1 < 2 ^ 63 by omega)];refine wa (d26 (a2G _ (.cells (g8 es))) hl l) rfl rfl ?_;rintro _ _ ⟨rfl,rfl⟩;simp +contextual -implicitDefEqProofs only [K12,SS,rA,rS,rL,rE,reduceCtorEq,a5P];refine wb ⟨_,_,rfl,?_,?_⟩
 · rw[List.length_append]; rfl
 · rw[List.append_assoc]; rfl
theorem X8 (e:Ent) (es:List Ent) (id:List Nat):R1 (e::es) id=if !eqN e.id id then e::R1 es id else R1 es id:=by rw[R1,List.filter_cons]; rfl
theorem a1N (x:Ent):∀ es:List Ent,R1 (x9 es x) x.id=R1 es x.id
 | []=>by rw[a1S,X8,q7]; rfl
 | e::es=>by
  rw[a05];split
  · rw[X8,X8,a1N x es]
  · split
    · rename_i i;rw[X8,X8,q7,i]; rfl
    · rw[X8,q7]; rfl
end Go.Cb.CodeA
