/- What functions of the abstract machine answer. No conditions but those that each theorem names. -/
import Derived.Test.YtbibkdncfclnbaaGreatDoorX7
set_option maxRecDepth 20000
set_option linter.unusedSimpArgs false
set_option linter.unusedVariables false
namespace Go.Cb.CodeA
open Go Go.Cb
open Nat renaming reduceAdd→rA,reduceSub→rS,reduceLeDiff→rL,reduceEqDiff→rE
attribute [local congr] j1 k8 l5 k9 k4 j9 m0 m2 V.runR_congr
theorem a9T {id:List Nat}:∀ {es:List Ent},(∀ y∈es,eqN y.id id=false)→B0 es id=es
 | [],_=>rfl
 | e::es,h=>by
  rw [B0,List.filter_cons,h e (List.mem_cons_self ..)]
  have ih:=a9T (es:=es) fun y hy=>h y (List.mem_cons_of_mem _ hy)
  rw [B0] at ih
  simp [ih]
theorem a2m {a b:List Nat} (h:g8 a b=true):eqN b a=false:=by
 rcases j5 (eqN b a) with h2|h2
 · rw [(O9 _ _).1 h2,O6] at h; cases h
 · exact h2
theorem a7D {a b:List Nat} (h:g8 a b=true):eqN a b=false:=by
 rcases j5 (eqN a b) with h2|h2
 · rw [(O9 _ _).1 h2,O6] at h; cases h
 · exact h2
theorem a9j (id:List Nat):∀ {es:List Ent},A9 es→B0 es id=if C1 id es then es.take (n7 id es)++es.drop (n7 id es+1) else es
 | [],_=>rfl
 | e::es,hs=>by
  obtain ⟨h1,h2⟩:=List.pairwise_cons.1 hs
  have hc:B0 (e::es) id=if !eqN e.id id then e::B0 es id else B0 es id:=by rw [B0,List.filter_cons]; rfl
  rw [hc]
  rcases j5 (g8 e.id id) with h|h
  · obtain ⟨p1,p2⟩:=a4T h es
    rw [p1,p2,a7D h,a9j id h2]
    cases C1 id es <;> rfl
  · obtain ⟨p1,p2⟩:=a4S h es
    rw [p1,p2]
    have key:∀ y∈es,eqN y.id id=false:=fun y hy=>by
     have hey:=h1 y hy
     rcases j5 (eqN e.id id) with h3|h3
     · rw [← (O9 _ _).1 h3]; exact a2m hey
     · have h4:g8 id e.id=true:=by
        rcases j5 (g8 id e.id) with h4|h4
        · exact h4
        · rw [a0m _ _ h h4,M1] at h3; cases h3
       exact a2m (J6 _ _ _ h4 hey)
    rw [a9T key]
    cases eqN e.id id <;> rfl
theorem b0m {es:List Ent} (hs:A9 es) (id:List Nat):A9 (B0 es id)∧(B0 es id).length≤es.length∧(∀ y∈B0 es id,y∈es)∧∀ y∈B0 es id,eqN y.id id=false :=
 ⟨hs.filter _,List.length_filter_le _ _,fun y hy=>(List.mem_filter.1 hy).1,fun y hy=>by simpa using (List.mem_filter.1 hy).2⟩
theorem c3T {es:List Ent} {o:Nat} {st:St} (h:st[o]?=some (.cells (i6 es))) (hl:es.length≤100000) {i:Nat} (hi:i < es.length):EvQ tbl 49 [.sl o 0 es.length 4,.int .i64 i,.int .i64 ((i+1:Nat):Int)] st (fun a st'=>a=.sl st.length 0 (es.length - 1) 4∧st'=st.set o .dead++[.cells (i6 (es.take i++es.drop (i+1)))]):=by
 refine EvQ.of_ext (fn:=a49) (e:=T7 4 80) (r:=(.sl st.length 0 (es.length - 1) 4,st.set o .dead++[.cells (i6 (es.take i++es.drop (i+1)))])) rfl rfl ?_ ⟨rfl,rfl⟩
 simp only [T7,h]
 rw [if_pos ⟨trivial,by omega,by omega,by omega,N9 es,by omega⟩,Int.toNat_natCast,V1,X8,P9,a0r,List.map_append,U5,U5]
theorem b3Z {es:List Ent} {v:AV} {st:St} (h:EntsAt v es st) (hs:A9 es) (hl:es.length≤100000) (id:List Nat):EvQ tbl 26 [.agg [v],.str id] st (fun a st'=>∃ v',a=.agg [v']∧EntsAt v' (B0 es id) st'∧Gr st st'):=by
 have hfi:=a3q h hs hl id
 have hlt:=fun h=>a4P (es:=es) (id:=id) h
 rw [a9j id hs]
 rcases h with ⟨rfl,rfl⟩|⟨o,rfl,ho⟩
 · refine EvQ.body (fn:=a26) rfl rfl rfl ?_
   simp +contextual -implicitDefEqProofs only [K26,SS,rA,rS,rL,rE,reduceCtorEq]
   refine WC.call hfi rfl rfl ?_
   rintro _ _ ⟨rfl,rfl⟩
   simp +contextual -implicitDefEqProofs only [K26,SS,rA,rS,rL,rE,reduceCtorEq,show C1 id []=false from rfl,Bool.not_false]
   exact WC.ret ⟨_,_,rfl,_,rfl,.inl ⟨rfl,rfl⟩,Gr.refl _⟩
 · refine EvQ.body (fn:=a26) rfl rfl rfl ?_
   simp +contextual -implicitDefEqProofs only [K26,SS,rA,rS,rL,rE,reduceCtorEq]
   refine WC.call hfi rfl rfl ?_
   rintro _ st ⟨rfl,rfl⟩
   rcases j5 (C1 id es) with hh|hh
   · have hil:=hlt hh
     rw [if_pos hh]
     simp +contextual -implicitDefEqProofs only [K26,SS,rA,rS,rL,rE,reduceCtorEq,hh,Bool.not_true]
     refine WC.call (a2I ho hl) rfl rfl ?_
     rintro _ _ ⟨rfl,rfl⟩
     simp +contextual -implicitDefEqProofs only [K26,SS,rA,rS,rL,rE,reduceCtorEq,D7 (show n7 id es+1 < 2 ^ 63 by omega)]
     refine WC.call (c3T (C5 _ (.cells (i6 es))) hl hil) rfl rfl ?_
     rintro _ _ ⟨rfl,rfl⟩
     simp +contextual -implicitDefEqProofs only [K26,SS,rA,rS,rL,rE,reduceCtorEq,P8]
     have hlen:(es.take (n7 id es)++es.drop (n7 id es+1)).length=es.length - 1:=by simp; omega
     have e1:(st++[Cb.Obj.cells (i6 es)]).length=st.length+1:=by simp
     refine WC.ret ⟨_,_,rfl,_,rfl,.inr ⟨st.length+1,by rw [hlen,e1]; rfl,?_⟩,fun i y hy=>Gr.app _ _ _ _ (Gr.app st _ _ _ hy)⟩
     simp
   · rw [hh,if_neg (by decide)]
     simp +contextual -implicitDefEqProofs only [K26,SS,rA,rS,rL,rE,reduceCtorEq,hh,Bool.not_false]
     exact WC.ret ⟨_,_,rfl,_,rfl,.inr ⟨_,rfl,ho⟩,Gr.refl _⟩
end Go.Cb.CodeA
