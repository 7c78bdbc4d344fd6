import Derived.Test.YtbibkdncfclnbaaGreatDoorX3
set_option maxRecDepth 20000
set_option linter.unusedSimpArgs false
set_option linter.unusedVariables false
namespace Go.Cb.CodeA
open Go Go.Cb
open Nat renaming reduceAdd→rA,reduceSub→rS,reduceLeDiff→rL,reduceEqDiff→rE
attribute [local congr] j1 k8 l5 k9 k4 j9 m0 m2 V.runR_congr
theorem U5 (es:List Ent):(i6 es).map AV.weak1=i6 es:=by
 induction es with
 | nil=>rfl
 | cons e es ih=>rw [show i6 (e::es)=e.row++i6 es from rfl,List.map_append,ih]; rfl
theorem EntsAt.gr {v:AV} {es:List Ent} {st st':St} (h:EntsAt v es st) (hg:Gr st st'):EntsAt v es st':=by
 rcases h with h|⟨o,h1,h2⟩
 · exact .inl h
 · exact .inr ⟨o,h1,hg o _ h2⟩
theorem EntsAt.wk {v:AV} {es:List Ent} {st:St} (h:EntsAt v es st):v.weak=v∧v.weak1=v∧v.strip=v∧v.stripB=v∧v.plain=true∧v.cells=[v]∧v.cellsW=[v]:=by
 rcases h with ⟨rfl,_⟩|⟨o,rfl,_⟩ <;> exact ⟨rfl,rfl,rfl,rfl,rfl,rfl,rfl⟩
theorem a5h (st:St):EvQ tbl 47 [.nils] st (fun a st'=>a=.nils∧st'=st):=EvQ.of_ext (fn:=a47) rfl rfl (r:=(.nils,st)) rfl ⟨rfl,rfl⟩
theorem a2I {es:List Ent} {o:Nat} {st:St} (h:st[o]?=some (.cells (i6 es))) (hl:es.length≤100000):EvQ tbl 47 [.sl o 0 es.length 4] st (fun a st'=>a=.sl st.length 0 es.length 4∧st'=st++[.cells (i6 es)]):=by
 refine EvQ.of_ext (fn:=a47) (e:=T3 4 80) (r:=(.sl st.length 0 es.length 4,st++[.cells (i6 es)])) rfl rfl ?_ ⟨rfl,rfl⟩
 unfold T3
 dsimp only
 rw [h]
 dsimp only
 rw [if_pos ⟨rfl,by rw [N9]; omega,by omega⟩,List.drop_zero,← N9,List.take_length,U5]
theorem b4x (x:Ent) (st:St):EvQ tbl 88 [.nils,.int .i64 0,.list false [x.row]] st (fun a st'=>a=.sl st.length 0 1 4∧st'=st++[.cells (i6 [x])]) :=
 EvQ.of_ext (fn:=a88) (e:=M3 4 80) (r:=(.sl st.length 0 1 4,st++[.cells (i6 [x])])) rfl rfl (by unfold M3; dsimp only; rw [if_pos ⟨rfl,rfl⟩]; rfl) ⟨rfl,rfl⟩
theorem X8 (es:List Ent):∀ i,(i6 es).take (i*4)=i6 (es.take i):=by
 induction es with
 | nil=>intro i; simp [i6]
 | cons e es ih =>
  intro i
  cases i with
  | zero=>rw [Nat.zero_mul,List.take_zero,List.take_zero]; rfl
  | succ i =>
   rw [List.take_succ_cons,show i6 (e::es)=e.row++i6 es from rfl,show i6 (e::es.take i)=e.row++i6 (es.take i) from rfl,← ih i,show (i+1)*4=i*4+4 by omega]
   rfl
theorem b7E {es:List Ent} {o:Nat} {st:St} (x:Ent) (h:st[o]?=some (.cells (i6 es))) (hl:es.length≤100000) {i:Nat} (hi:i≤es.length):EvQ tbl 88 [.sl o 0 es.length 4,.int .i64 i,.list false [x.row]] st (fun a st'=>a=.sl st.length 0 (es.length+1) 4∧st'=st.set o .dead++[.cells (i6 (es.take i++x::es.drop i))]):=by
 refine EvQ.of_ext (fn:=a88) (e:=M3 4 80) (r:=(.sl st.length 0 (es.length+1) 4,st.set o .dead++[.cells (i6 (es.take i++x::es.drop i))])) rfl rfl ?_ ⟨rfl,rfl⟩
 simp only [M3,h]
 rw [if_pos ⟨trivial,by omega,by omega,N9 es,rfl,by omega⟩,Int.toNat_natCast,E3,X8,P9,a0r]
 rw [show i6 (x::es.drop i)=x.row++i6 (es.drop i) from rfl,List.map_append,List.map_append,U5,U5,List.append_assoc]
 rfl
theorem a3q {es:List Ent} {v:AV} {st:St} (h:EntsAt v es st) (hs:A9 es) (hl:es.length≤100000) (id:List Nat):EvQ tbl 48 [.agg [v],.str id] st (fun a st'=>st'=st∧a=.tuple [.int .i64 (n7 id es),.bool (C1 id es)]):=by
 obtain ⟨w1,w2,w3,w4,w5,w6,w7⟩:=h.wk
 refine EvQ.body (fn:=a48) rfl rfl rfl ?_
 simp +contextual -implicitDefEqProofs only [K48,SS,rA,rS,rL,rE,reduceCtorEq,w1,w2,w3,w4,w5,w6,w7]
 refine WC.call (b44 h hs hl id) (by simp only [m8,w5]; rfl) (by simp only [List.map_cons,List.map_nil,w1]; rfl) ?_
 rintro _ _ ⟨rfl,rfl⟩
 simp +contextual -implicitDefEqProofs only [K48,SS,rA,rS,rL,rE,reduceCtorEq]
 exact WC.ret ⟨_,_,rfl,rfl,rfl⟩
/-- the entities with one more, or in the place of that of its name -/
def C3 (es:List Ent) (x:Ent):List Ent:=if C1 x.id es then es.set (n7 x.id es) x else es.take (n7 x.id es)++x::es.drop (n7 x.id es)
theorem a4P {id:List Nat} {es:List Ent} (h:C1 id es=true):n7 id es < es.length:=by
 unfold C1 at h
 cases hq:es[n7 id es]? with
 | none=>rw [hq] at h; cases h
 | some e=>exact (List.getElem?_eq_some_iff.1 hq).1
theorem b8B {es:List Ent} (x:Ent):∀ {i:Nat},i < es.length→m4 (i6 es) (i*4) x.row=i6 (es.set i x):=by
 intro i hi
 unfold m4
 rw [show x.row.length=4 from rfl,X8,show i*4+4=(i+1)*4 by omega,P9,List.set_eq_take_append_cons_drop,if_pos hi,a0r,List.append_assoc]
 rfl
theorem c1v {es:List Ent} {v:AV} {st:St} (h:EntsAt v es st) (hs:A9 es) (hl:es.length≤100000) (x:Ent):EvQ tbl 40 [.agg [v],.agg x.row] st (fun a st'=>∃ v',a=.agg [v']∧EntsAt v' (C3 es x) st'∧Gr st st'):=by
 obtain ⟨w1,w2,w3,w4,w5,w6,w7⟩:=h.wk
 have ex:x.row=[.str x.t,.str x.id,.list false (x.ks.map j6),.list false (x.ls.map Val.row)]:=rfl
 rw [ex]
 refine EvQ.body (fn:=a40) rfl rfl rfl ?_
 simp +contextual -implicitDefEqProofs only [K40,SS,rA,rS,rL,rE,reduceCtorEq,w1,w2,w3,w4,w5,w6,w7]
 rcases h with ⟨rfl,rfl⟩|⟨o,rfl,ho⟩
 · refine WC.call (a5h st) rfl rfl ?_
   rintro _ _ ⟨rfl,rfl⟩
   simp +contextual -implicitDefEqProofs only [K40,SS,rA,rS,rL,rE,reduceCtorEq]
   refine WC.call (a3q (.inl ⟨rfl,rfl⟩) hs hl x.id) rfl rfl ?_
   rintro _ st ⟨rfl,rfl⟩
   simp +contextual -implicitDefEqProofs only [K40,SS,rA,rS,rL,rE,reduceCtorEq,show C1 x.id []=false from rfl,show n7 x.id []=0 from rfl]
   have hi:=b4x x st
   rw [ex] at hi
   refine WC.call hi rfl rfl ?_
   rintro _ _ ⟨rfl,rfl⟩
   simp +contextual -implicitDefEqProofs only [K40,SS,rA,rS,rL,rE,reduceCtorEq]
   exact WC.ret ⟨_,_,rfl,_,rfl,.inr ⟨_,rfl,C5 st _⟩,Gr.app _ _⟩
 · refine WC.call (a2I ho hl) rfl rfl ?_
   rintro _ _ ⟨rfl,rfl⟩
   simp +contextual -implicitDefEqProofs only [K40,SS,rA,rS,rL,rE,reduceCtorEq]
   refine WC.call (a3q (.inr ⟨o,rfl,Gr.app st _ _ _ ho⟩) hs hl x.id) rfl rfl ?_
   rintro _ _ ⟨rfl,rfl⟩
   simp +contextual -implicitDefEqProofs only [K40,SS,rA,rS,rL,rE,reduceCtorEq]
   refine WC.br (fun hh=>?_) (fun hh=>?_)
   · have hlt:=a4P hh
     have hml:((n7 x.id es:Int) < (es.length:Int))=True:=by simp; omega
     have hnew:=C5 st (.cells (i6 es))
     have hseg:=b8B x hlt
     rw [ex] at hseg
     have hfit:n7 x.id es*4+4≤(i6 es).length:=by rw [N9]; omega
     simp +contextual -implicitDefEqProofs only [K40,SS,rA,rS,rL,rE,reduceCtorEq,hml,if_true,hnew,hfit,hseg,P8]
     refine WC.ret ⟨_,_,rfl,_,rfl,.inr ⟨st.length,by rw [C3,if_pos hh,List.length_set]; rfl,by rw [C3,if_pos hh,← hseg]; exact C5 st _⟩,Gr.app _ _⟩
   · have hp:=a9U x.id es
     have hi:=b7E x (C5 st (.cells (i6 es))) hl hp
     rw [ex] at hi
     simp +contextual -implicitDefEqProofs only [K40,SS,rA,rS,rL,rE,reduceCtorEq]
     refine WC.call hi rfl rfl ?_
     rintro _ _ ⟨rfl,rfl⟩
     simp +contextual -implicitDefEqProofs only [K40,SS,rA,rS,rL,rE,reduceCtorEq,P8]
     have hlen:(es.take (n7 x.id es)++x::es.drop (n7 x.id es)).length=es.length+1:=by simp; omega
     have e1:(st++[Cb.Obj.cells (i6 es)]).length=st.length+1:=by simp
     refine WC.ret ⟨_,_,rfl,_,rfl,.inr ⟨st.length+1,?_,?_⟩,fun i y hy=>?_⟩
     · rw [C3,if_neg (by rw [hh]; decide),hlen,e1]; rfl
     · rw [C3,if_neg (by rw [hh]; decide)]
       simp
     · exact Gr.app _ _ _ _ (Gr.app st _ _ _ hy)
end Go.Cb.CodeA
