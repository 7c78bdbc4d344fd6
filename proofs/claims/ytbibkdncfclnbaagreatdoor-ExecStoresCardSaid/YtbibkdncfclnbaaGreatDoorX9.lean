/- What functions of the abstract machine answer. No conditions but those that each theorem names. -/
import Derived.Test.YtbibkdncfclnbaaGreatDoorX8
set_option maxRecDepth 20000
set_option linter.unusedSimpArgs false
set_option linter.unusedVariables false
namespace Go.Cb.CodeA
open Go Go.Cb
open Nat renaming reduceAdd→rA,reduceSub→rS,reduceLeDiff→rL,reduceEqDiff→rE
attribute [local congr] j1 k8 l5 k9 k4 j9 m0 m2 V.runR_congr
theorem a5C:∀ {es:List Ent},A9 es→∀ e∈es,Y0 es e.id=some e
 | [],_,e,h=>by cases h
 | x::es,hs,e,h=>by
  obtain ⟨h1,h2⟩:=List.pairwise_cons.1 hs
  rcases List.mem_cons.1 h with rfl|h
  · obtain ⟨p1,p2⟩:=a4S (O6 e.id) es
    rw [Y0,p1,p2,M1,if_pos rfl]
    rfl
  · obtain ⟨p1,p2⟩:=a4T (h1 e h) es
    have ih:=a5C h2 e h
    rw [Y0,p1,p2,List.getElem?_cons_succ]
    exact ih
theorem b4m {es:List Ent} (hs:A9 es) (id:List Nat):Y0 (B0 es id) id=none:=by
 cases h:Y0 (B0 es id) id with
 | none=>rfl
 | some e =>
  obtain ⟨h1,h2⟩:=b3o h
  rw [(b0m hs id).2.2.2 e h1] at h2
  cases h2
theorem b1r (l:List Thg) (hl:∀ x∈l,x.OK) (out:List Int) (ho:∀ r∈out,0≤r) (haw:EvQ tbl 11 [] [] (fun a _=>a=.bool true)) :
 EvQ tbl 10 [.list false (l.map Thg.row),.list false (out.map C9)] [] (fun a _=>a=.bool true):=by
 refine EvQ.body (fn:=a10) rfl rfl rfl ?_
 simp +contextual -implicitDefEqProofs only [K10,SS,rA,rS,rL,rE,reduceCtorEq]
 refine WC.call haw rfl rfl ?_
 rintro _ st1 rfl
 simp +contextual -implicitDefEqProofs only [K10,SS,rA,rS,rL,rE,reduceCtorEq,Bool.not_true]
 refine WC.call (b4u l hl st1) rfl rfl ?_
 rintro _ st1 ⟨rfl,L,rfl,hL,hg⟩
 simp +contextual -implicitDefEqProofs only [K10,SS,rA,rS,rL,rE,reduceCtorEq]
 refine WC.call (d1i L (by omega) st1) rfl rfl ?_
 rintro _ st2 ⟨v0,rfl,hv0,_⟩
 obtain ⟨hs0,hl0,hm0⟩:=a8S L
 have hg0:∀ e∈ofE L,e.Good:=fun e he=>hg e (hm0 e he)
 have h13:=fun st=>b9h L (by omega) st
 generalize ofE L=es0 at *
 obtain ⟨w1,w2,w3,w4,w5,w6,w7⟩:=hv0.wk
 simp +contextual -implicitDefEqProofs only [K10,SS,rA,rS,rL,rE,reduceCtorEq,w1,w2,w3,w4,w5,w6,w7]
 refine WC.call (h13 _) rfl rfl ?_
 rintro _ st2 ⟨rfl,rfl⟩
 simp +contextual -implicitDefEqProofs only [K10,SS,rA,rS,rL,rE,reduceCtorEq,w1,w2,w3,w4,w5,w6,w7]
 refine WC.loopR (fun mm fr st=>∃ (i:Nat) (v:AV) (es:List Ent) (o:Bool) (v8 v9 v10:AV),EntsAt v es st∧EntsAt v0 es0 st∧A9 es∧es.length≤12∧(∀ e∈es,e.Good)∧i≤8∧mm=8 - i∧fr=[.list false (l.map Thg.row),.list false (out.map C9),.bool false,.list false (L.map Ent.row),.box [v],.list false (es.map Ent.row),.box [v0],.int .i64 i,v8,v9,v10,.undef,.undef,.undef]) (m:=8) ⟨0,v0,es0,false,_,_,_,hv0,hv0,hs0,by omega,hg0,Nat.zero_le _,rfl,rfl⟩ ?_
 rintro mm fr st ⟨i,v,es,o,v8,v9,v10,hv,hv0,hs,hle,hge,hi,rfl,rfl⟩
 obtain ⟨u1,u2,u3,u4,u5,u6,u7⟩:=hv.wk
 simp +contextual -implicitDefEqProofs only [K10,SS,rA,rS,rL,rE,reduceCtorEq,List.length_map,ltN,u1,u2,u3,u4,u5,u6,u7,w1,w2,w3,w4,w5,w6,w7]
 rcases j5 (decide (i < out.length) && ltI (i:Int) 8) with hc|hc
 rotate_left
 · simp +contextual -implicitDefEqProofs only [K10,SS,rA,rS,rL,rE,reduceCtorEq,hc]
   refine WC.leave ?_
   simp +contextual -implicitDefEqProofs only [K10,SS,rA,rS,rL,rE,reduceCtorEq,u1,u2,u3,u4,u5,u6,u7,w1,w2,w3,w4,w5,w6,w7]
   refine WC.loopR (fun mm fr st'=>st'=st∧∃ (k:Nat) (v12 v13:AV),k≤es.length∧mm=es.length - k∧fr=[.list false (l.map Thg.row),.list false (out.map C9),.bool false,.list false (L.map Ent.row),.box [v],.list false (es.map Ent.row),.box [v0],.int .i64 i,v8,v9,v10,.int .i64 k,v12,v13]) (m:=es.length) ⟨rfl,0,_,_,Nat.zero_le _,rfl,rfl⟩ ?_
   rintro mm fr st' ⟨rfl,k,v12,v13,hk,rfl,rfl⟩
   simp +contextual -implicitDefEqProofs only [K10,SS,rA,rS,rL,rE,reduceCtorEq,List.length_map,ltN,u1,u2,u3,u4,u5,u6,u7,w1,w2,w3,w4,w5,w6,w7]
   by_cases hkl:k < es.length
   · have e1:=Z3 hkl
     have hself:=a5C hs _ (List.getElem_mem hkl)
     have hget:=a3y hv hs (by omega) es[k].id
     have hsm:=a6m (hge _ (List.getElem_mem hkl)) st'
     rw [hself] at hget
     revert e1 hget hsm
     generalize es[k]=e
     intro e1 hget hsm
     have ee:e.row=[.str e.t,.str e.id,.list false (e.ks.map j6),.list false (e.ls.map Val.row)]:=rfl
     rw [Option.getD_some,ee] at hget
     rw [ee] at hsm e1
     simp +contextual -implicitDefEqProofs only [K10,SS,rA,rS,rL,rE,reduceCtorEq,hkl,e1,u1,u2,u3,u4,u5,u6,u7]
     refine WC.call hget (by simp only [R.allPlain_c,R.allPlain_n,R.plain_agg]; rfl) (by simp only [List.map_cons,List.map_nil,G3,u2]; rfl) ?_
     rintro _ _ ⟨rfl,rfl⟩
     simp +contextual -implicitDefEqProofs only [K10,SS,rA,rS,rL,rE,reduceCtorEq,Option.isSome_some,Bool.not_true,e1]
     refine WC.call hsm rfl rfl ?_
     rintro _ _ ⟨rfl,rfl⟩
     simp +contextual -implicitDefEqProofs only [K10,SS,rA,rS,rL,rE,reduceCtorEq,Bool.not_true,D7 (show k+1 < 2 ^ 63 by omega)]
     exact WC.next (m':=es.length - (k+1)) (by omega) ⟨rfl,k+1,_,_,hkl,rfl,rfl⟩
   · simp +contextual -implicitDefEqProofs only [K10,SS,rA,rS,rL,rE,reduceCtorEq,hkl]
     refine WC.leave ?_
     simp +contextual -implicitDefEqProofs only [K10,SS,rA,rS,rL,rE,reduceCtorEq,w1,w2,w3,w4,w5,w6,w7]
     refine WC.call (b7p (by omega) hv0) (by simp only [R.allPlain_c,R.allPlain_n,R.plain_agg]; rfl) (by simp only [List.map_cons,List.map_nil,G3,w2]) ?_
     rintro a st3 ⟨ha,hgr⟩
     obtain ⟨x1,x2,x3,x4,x5,x6,x7⟩:=ha.wk
     simp +contextual -implicitDefEqProofs only [K10,SS,rA,rS,rL,rE,reduceCtorEq,x1,x2,x3,x4,x5,x6,x7]
     refine WC.call (h13 _) rfl rfl ?_
     rintro _ st3 ⟨rfl,rfl⟩
     simp +contextual -implicitDefEqProofs only [K10,SS,rA,rS,rL,rE,reduceCtorEq,x1,x2,x3,x4,x5,x6,x7]
     refine WC.call (a7I hg0 (by omega) ha) (by simp only [m8,x5]; rfl) (by simp only [List.map_cons,List.map_nil,x1]; rfl) ?_
     rintro _ _ ⟨rfl,rfl⟩
     simp +contextual -implicitDefEqProofs only [K10,SS,rA,rS,rL,rE,reduceCtorEq]
     exact WC.ret ⟨_,_,rfl,rfl⟩
 have hil:i < out.length:=by
  rw [Bool.and_eq_true] at hc
  exact of_decide_eq_true hc.1
 have hi8:i < 8:=by
  rw [Bool.and_eq_true,ltI_eq] at hc
  have:=of_decide_eq_true hc.2
  omega
 have e1:(out.map C9)[i]?=some (C9 out[i]):=by rw [List.getElem?_map,List.getElem?_eq_getElem hil]; rfl
 have hr0:=ho _ (List.getElem_mem hil)
 revert e1 hr0
 generalize out[i]=r
 intro e1 hr0
 rw [C9] at e1
 have hen:=a8D (x:=⟨0,r,0,[],[],0⟩) ⟨hr0,(fun r hr=>by cases hr),by dsimp only; decide⟩ st
 simp +contextual -implicitDefEqProofs only [K10,SS,rA,rS,rL,rE,reduceCtorEq,hc,e1]
 refine WC.call hen rfl rfl ?_
 rintro _ st ⟨rfl,e,rfl,_,hid⟩
 have ee:e.row=[.str e.t,.str e.id,.list false (e.ks.map j6),.list false (e.ls.map Val.row)]:=rfl
 rw [ee]
 generalize e.id=id at *
 simp +contextual -implicitDefEqProofs only [K10,SS,rA,rS,rL,rE,reduceCtorEq,u1,u2,u3,u4,u5,u6,u7]
 refine WC.call (b3Z hv hs (by omega) id) (by simp only [R.allPlain_c,R.allPlain_n,R.plain_agg]; rfl) (by simp only [List.map_cons,List.map_nil,G3,u2]; rfl) ?_
 rintro _ st2 ⟨v',rfl,hv',hgr⟩
 have hv0:=hv0.gr hgr
 obtain ⟨y1,y2,y3,y4,y5,y6,y7⟩:=hv'.wk
 obtain ⟨hs',hl',hm',_⟩:=b0m hs id
 have hg':∀ e∈B0 es id,e.Good:=fun e he=>hge e (hm' e he)
 simp +contextual -implicitDefEqProofs only [K10,SS,rA,rS,rL,rE,reduceCtorEq,y1,y2,y3,y4,y5,y6,y7]
 refine WC.call (a9s es (by omega) id _) rfl rfl ?_
 rintro _ st2 ⟨rfl,rfl⟩
 have hgo:=b4m hs id
 generalize B0 es id=es' at *
 simp +contextual -implicitDefEqProofs only [K10,SS,rA,rS,rL,rE,reduceCtorEq,y1,y2,y3,y4,y5,y6,y7]
 refine WC.call (b7p (by omega) hv') (by simp only [R.allPlain_c,R.allPlain_n,R.plain_agg]; rfl) (by simp only [List.map_cons,List.map_nil,G3,y2]) ?_
 rintro a st3 ⟨ha,hgr⟩
 have hv':=hv'.gr hgr
 have hv0:=hv0.gr hgr
 obtain ⟨x1,x2,x3,x4,x5,x6,x7⟩:=ha.wk
 simp +contextual -implicitDefEqProofs only [K10,SS,rA,rS,rL,rE,reduceCtorEq,x1,x2,x3,x4,x5,x6,x7]
 refine WC.call (a7I hg' (by omega) ha) (by simp only [m8,x5]; rfl) (by simp only [List.map_cons,List.map_nil,x1]; rfl) ?_
 rintro _ st3 ⟨rfl,rfl⟩
 simp +contextual -implicitDefEqProofs only [K10,SS,rA,rS,rL,rE,reduceCtorEq,Bool.not_true,y1,y2,y3,y4,y5,y6,y7]
 refine WC.call (c3m hv') (by simp only [R.allPlain_c,R.allPlain_n,R.plain_agg]; rfl) (by simp only [List.map_cons,List.map_nil,G3,y2]) ?_
 rintro _ st3 ⟨rfl,rfl⟩
 simp +contextual -implicitDefEqProofs only [K10,SS,rA,rS,rL,rE,reduceCtorEq,List.length_map,a2C,Bool.not_true,y1,y2,y3,y4,y5,y6,y7]
 refine WC.call (a3y hv' hs' (by omega) id) (by simp only [R.allPlain_c,R.allPlain_n,R.plain_agg]; rfl) (by simp only [List.map_cons,List.map_nil,G3,y2]; rfl) ?_
 rintro _ st3 ⟨rfl,rfl⟩
 rw [hgo,Option.getD_none]
 simp +contextual -implicitDefEqProofs only [K10,SS,rA,rS,rL,rE,reduceCtorEq,Option.isSome_none,Ent.none,Ent.row,List.map_nil,show eqN [] []=true from rfl,Bool.not_true,D7 (show i+1 < 2 ^ 63 by omega)]
 exact WC.next (m':=8 - (i+1)) (by omega) ⟨i+1,v',es',false,_,_,_,hv',hv0,hs',by omega,hg',hi8,rfl,rfl⟩
end Go.Cb.CodeA
