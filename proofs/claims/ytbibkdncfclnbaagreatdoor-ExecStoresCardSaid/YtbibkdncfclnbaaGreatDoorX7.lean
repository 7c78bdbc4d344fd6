import Derived.Test.YtbibkdncfclnbaaGreatDoorX6
set_option maxRecDepth 20000
set_option linter.unusedSimpArgs false
set_option linter.unusedVariables false
namespace Go.Cb.CodeA
open Go Go.Cb
open Nat renaming reduceAdd→rA,reduceSub→rS,reduceLeDiff→rL,reduceEqDiff→rE
attribute [local congr] j1 k8 l5 k9 k4 j9 m0 m2 V.runR_congr
theorem a2C (n:Int):eqI n n=true:=by rw [eqI_eq]; simp
/-- a value with no more names or values than a slice may have -/
inductive Val.Fin:Val→Prop
 | mk (k n:Int) (s:List Nat) (ks:List (List Nat)) (ls:List Val) (hk:ks.length < 2 ^ 62) (hl:ls.length < 2 ^ 62) (h:∀ v∈ls,Val.Fin v):Val.Fin (.mk k n s ks ls)
theorem b9p {v:Val} (h:v.Fin):∀ st:St,EvQ tbl 21 [.agg v.row,.agg v.row] st (fun a st'=>st'=st∧a=.bool true):=by
 induction h with
 | mk k n s ks ls hk hl h ih =>
  intro st
  rw [Val.row_eq]
  refine EvQ.body (fn:=a21) rfl rfl rfl ?_
  simp +contextual -implicitDefEqProofs only [K21,SS,rA,rS,rL,rE,reduceCtorEq,a2C,M1,Bool.not_true,List.length_map]
  refine WC.loopR (fun mm fr st'=>st'=st∧∃ (i:Nat),i≤ks.length∧mm=ks.length - i∧fr=[.agg [.int .u8 k,.int .i64 n,.str s,.list false (ks.map j6),.list false (ls.map Val.row)],.agg [.int .u8 k,.int .i64 n,.str s,.list false (ks.map j6),.list false (ls.map Val.row)],.box [.int .u8 k,.int .i64 n,.str s,.list false (ks.map j6),.list false (ls.map Val.row)],.box [.int .u8 k,.int .i64 n,.str s,.list false (ks.map j6),.list false (ls.map Val.row)],.bool false,.int .i64 i,.undef]) (m:=ks.length) ⟨rfl,0,Nat.zero_le _,rfl,rfl⟩ ?_
  rintro mm fr st' ⟨rfl,i,hi,rfl,rfl⟩
  by_cases hil:i < ks.length
  · have e2:=b2E hil
    simp +contextual -implicitDefEqProofs only [K21,SS,rA,rS,rL,rE,reduceCtorEq,List.length_map,hil,e2,M1,Bool.not_true,D7 (show i+1 < 2 ^ 63 by omega)]
    exact WC.next (m':=ks.length - (i+1)) (by omega) ⟨rfl,i+1,hil,rfl,rfl⟩
  simp +contextual -implicitDefEqProofs only [K21,SS,rA,rS,rL,rE,reduceCtorEq,List.length_map,hil]
  refine WC.leave ?_
  simp +contextual -implicitDefEqProofs only [K21,SS,rA,rS,rL,rE,reduceCtorEq]
  refine WC.loopR (fun mm fr st''=>st''=st'∧∃ (j:Nat),j≤ls.length∧mm=ls.length - j∧fr=[.agg [.int .u8 k,.int .i64 n,.str s,.list false (ks.map j6),.list false (ls.map Val.row)],.agg [.int .u8 k,.int .i64 n,.str s,.list false (ks.map j6),.list false (ls.map Val.row)],.box [.int .u8 k,.int .i64 n,.str s,.list false (ks.map j6),.list false (ls.map Val.row)],.box [.int .u8 k,.int .i64 n,.str s,.list false (ks.map j6),.list false (ls.map Val.row)],.bool false,.int .i64 i,.int .i64 j]) (m:=ls.length) ⟨rfl,0,Nat.zero_le _,rfl,rfl⟩ ?_
  rintro mm fr st'' ⟨rfl,j,hj,rfl,rfl⟩
  by_cases hjl:j < ls.length
  · have e2:=b3K hjl
    have ih1:=ih _ (List.getElem_mem hjl)
    revert e2 ih1
    generalize ls[j]=u
    intro e2 ih1
    obtain ⟨k1,n1,s1,ks1,ls1,e1⟩:=u.row_cells
    rw [e1] at e2
    simp only [e1] at ih1
    simp +contextual -implicitDefEqProofs only [K21,SS,rA,rS,rL,rE,reduceCtorEq,List.length_map,hjl,e2]
    refine WC.call (ih1 _) rfl rfl ?_
    rintro _ _ ⟨rfl,rfl⟩
    simp +contextual -implicitDefEqProofs only [K21,SS,rA,rS,rL,rE,reduceCtorEq,Bool.not_true,D7 (show j+1 < 2 ^ 63 by omega)]
    exact WC.next (m':=ls.length - (j+1)) (by omega) ⟨rfl,j+1,hjl,rfl,rfl⟩
  · simp +contextual -implicitDefEqProofs only [K21,SS,rA,rS,rL,rE,reduceCtorEq,List.length_map,hjl]
    refine WC.leave ?_
    simp +contextual -implicitDefEqProofs only [K21,SS,rA,rS,rL,rE,reduceCtorEq]
    exact WC.ret ⟨_,_,rfl,rfl,rfl⟩
theorem Small.fin {v:Val} (h:Small v):v.Fin:=by
 obtain ⟨k,n,s,ls,rfl,_,hl,hu⟩:=h
 refine .mk _ _ _ _ _ (by decide) (by omega) fun u hu'=>?_
 obtain ⟨k,n,s,rfl,_⟩:=hu u hu'
 exact .mk _ _ _ _ _ (by decide) (by decide) fun u hu=>by cases hu
theorem a6m {e:Ent} (h:e.Good) (st:St):EvQ tbl 30 [.agg e.row,.agg e.row] st (fun a st'=>st'=st∧a=.bool true):=by
 have hk:=h.kl
 have hl:=h.le
 have hs:=b9p (v:=.mk 0 0 [] e.ks e.ls) (.mk _ _ _ _ _ (by omega) (by omega) fun v hv=>(h.sm v hv).fin) st
 rw [Val.row_eq] at hs
 have ee:e.row=[.str e.t,.str e.id,.list false (e.ks.map j6),.list false (e.ls.map Val.row)]:=rfl
 rw [ee]
 refine EvQ.body (fn:=a30) rfl rfl rfl ?_
 simp +contextual -implicitDefEqProofs only [K30,SS,rA,rS,rL,rE,reduceCtorEq,M1]
 refine WC.call hs rfl rfl ?_
 rintro _ _ ⟨rfl,rfl⟩
 simp +contextual -implicitDefEqProofs only [K30,SS,rA,rS,rL,rE,reduceCtorEq]
 exact WC.ret ⟨_,_,rfl,rfl,rfl⟩
/-- entities as rows of a list, or as an object of the store -/
theorem a7I {es:List Ent} (hg:∀ e∈es,e.Good) (hl:es.length≤100000) {v:AV} {st:St} (hv:EntsAt v es st):EvQ tbl 24 [v,.list false (es.map Ent.row)] st (fun a st'=>st'=st∧a=.bool true):=by
 rcases hv with ⟨rfl,rfl⟩|⟨o,rfl,ho⟩
 · refine EvQ.body (fn:=a24) rfl rfl rfl ?_
   simp +contextual -implicitDefEqProofs only [K24,SS,rA,rS,rL,rE,reduceCtorEq,List.map_nil,List.length_nil,show eqI 0 ((0:Nat):Int)=true from rfl,Bool.not_true]
   refine WC.loopR (fun mm fr st'=>st'=st∧fr=[.nils,.list false [],.bool false,.int .i64 0]) (m:=0) ⟨rfl,rfl⟩ ?_
   rintro mm fr st' ⟨rfl,rfl⟩
   simp +contextual -implicitDefEqProofs only [K24,SS,rA,rS,rL,rE,reduceCtorEq,show ltI 0 0=false from rfl,List.length_nil]
   refine WC.leave ?_
   simp +contextual -implicitDefEqProofs only [K24,SS,rA,rS,rL,rE,reduceCtorEq]
   exact WC.ret ⟨_,_,rfl,rfl,rfl⟩
 · refine EvQ.body (fn:=a24) rfl rfl rfl ?_
   simp +contextual -implicitDefEqProofs only [K24,SS,rA,rS,rL,rE,reduceCtorEq,List.length_map,a2C,Bool.not_true]
   refine WC.loopR (fun mm fr st'=>st'=st∧∃ (i:Nat),i≤es.length∧mm=es.length - i∧fr=[.sl o 0 es.length 4,.list false (es.map Ent.row),.bool false,.int .i64 i]) (m:=es.length) ⟨rfl,0,Nat.zero_le _,rfl,rfl⟩ ?_
   rintro mm fr st' ⟨rfl,i,hi,rfl,rfl⟩
   simp +contextual -implicitDefEqProofs only [K24,SS,rA,rS,rL,rE,reduceCtorEq,ltN,List.length_map]
   by_cases hil:i < es.length
   · have e1:=Z3 hil
     have hld:=fun call bx=>a2G ho hil call bx
     have hq:=a6m (hg _ (List.getElem_mem hil)) st'
     have hml:((i:Int) < (es.length:Int))=True:=by simp; omega
     revert e1 hld hq
     generalize es[i]=e
     intro e1 hld hq
     have ee:e.row=[.str e.t,.str e.id,.list false (e.ks.map j6),.list false (e.ls.map Val.row)]:=rfl
     rw [ee] at e1 hq
     simp only [ee] at hld
     simp +contextual -implicitDefEqProofs only [K24,SS,rA,rS,rL,rE,reduceCtorEq,hil,e1,hld,hml,if_true]
     refine WC.call hq rfl rfl ?_
     rintro _ _ ⟨rfl,rfl⟩
     simp +contextual -implicitDefEqProofs only [K24,SS,rA,rS,rL,rE,reduceCtorEq,Bool.not_true,D7 (show i+1 < 2 ^ 63 by omega)]
     exact WC.next (m':=es.length - (i+1)) (by omega) ⟨rfl,i+1,hil,rfl,rfl⟩
   · simp +contextual -implicitDefEqProofs only [K24,SS,rA,rS,rL,rE,reduceCtorEq,hil]
     refine WC.leave ?_
     simp +contextual -implicitDefEqProofs only [K24,SS,rA,rS,rL,rE,reduceCtorEq]
     exact WC.ret ⟨_,_,rfl,rfl,rfl⟩
theorem b7p {es:List Ent} (hl:es.length≤100000) {v:AV} {st:St} (hv:EntsAt v es st):EvQ tbl 23 [.agg [v]] st (fun a st'=>EntsAt a es st'∧Gr st st'):=by
 rcases hv with ⟨rfl,rfl⟩|⟨o,rfl,ho⟩
 · refine EvQ.body (fn:=a23) rfl rfl rfl ?_
   simp +contextual -implicitDefEqProofs only [K23,SS,rA,rS,rL,rE,reduceCtorEq]
   refine WC.call (a5h st) rfl rfl ?_
   rintro _ _ ⟨rfl,rfl⟩
   simp +contextual -implicitDefEqProofs only [K23,SS,rA,rS,rL,rE,reduceCtorEq]
   exact WC.ret ⟨_,_,rfl,.inl ⟨rfl,rfl⟩,Gr.refl _⟩
 · refine EvQ.body (fn:=a23) rfl rfl rfl ?_
   simp +contextual -implicitDefEqProofs only [K23,SS,rA,rS,rL,rE,reduceCtorEq]
   refine WC.call (a2I ho hl) rfl rfl ?_
   rintro _ _ ⟨rfl,rfl⟩
   simp +contextual -implicitDefEqProofs only [K23,SS,rA,rS,rL,rE,reduceCtorEq]
   exact WC.ret ⟨_,_,rfl,.inr ⟨_,rfl,C5 st _⟩,Gr.app _ _⟩
theorem c3m {es:List Ent} {v:AV} {st:St} (hv:EntsAt v es st):EvQ tbl 28 [.agg [v]] st (fun a st'=>st'=st∧a=.int .i64 es.length):=by
 rcases hv with ⟨rfl,rfl⟩|⟨o,rfl,ho⟩
 · refine EvQ.body (fn:=a28) rfl rfl rfl ?_
   simp +contextual -implicitDefEqProofs only [K28,SS,rA,rS,rL,rE,reduceCtorEq]
   exact WC.ret ⟨_,_,rfl,rfl,rfl⟩
 · refine EvQ.body (fn:=a28) rfl rfl rfl ?_
   simp +contextual -implicitDefEqProofs only [K28,SS,rA,rS,rL,rE,reduceCtorEq]
   exact WC.ret ⟨_,_,rfl,rfl,rfl⟩
theorem b1e {es:List Ent} {i:Nat} (h:i < es.length):(4≤(List.drop (i*4) (i6 es)).length)=True∧List.map AV.weak1 (List.take 4 (List.drop (i*4) (i6 es)))=es[i].row:=by
 have h4:=a5N h
 rw [R.takeVal_t] at h4
 split at h4
 · rename_i hl
   exact ⟨by simpa using hl,by simpa using h4⟩
 · cases h4
def Ent.none:Ent:=⟨[],[],[],[]⟩
def Y0 (es:List Ent) (id:List Nat):Option Ent:=if C1 id es then es[n7 id es]? else .none
theorem b3o {es:List Ent} {id:List Nat} {e:Ent} (h:Y0 es id=some e):e∈es∧eqN e.id id=true:=by
 unfold Y0 at h
 split at h
 · rename_i hh
   unfold C1 at hh
   rw [h] at hh
   exact ⟨List.mem_of_getElem? h,hh⟩
 · cases h
theorem a3y {es:List Ent} {v:AV} {st:St} (hv:EntsAt v es st) (hs:A9 es) (hl:es.length≤100000) (id:List Nat):EvQ tbl 29 [.agg [v],.str id] st (fun a st'=>st'=st∧a=.tuple [.agg ((Y0 es id).getD Ent.none).row,.bool (Y0 es id).isSome]):=by
 have hfi:=a3q hv hs hl id
 have hlt:=fun h=>a4P (es:=es) (id:=id) h
 rcases hv with ⟨rfl,rfl⟩|⟨o,rfl,ho⟩
 · refine EvQ.body (fn:=a29) rfl rfl rfl ?_
   simp +contextual -implicitDefEqProofs only [K29,SS,rA,rS,rL,rE,reduceCtorEq]
   refine WC.call hfi rfl rfl ?_
   rintro _ _ ⟨rfl,rfl⟩
   simp +contextual -implicitDefEqProofs only [K29,SS,rA,rS,rL,rE,reduceCtorEq,show C1 id []=false from rfl,Bool.not_false]
   exact WC.ret ⟨_,_,rfl,rfl,rfl⟩
 · refine EvQ.body (fn:=a29) rfl rfl rfl ?_
   simp +contextual -implicitDefEqProofs only [K29,SS,rA,rS,rL,rE,reduceCtorEq]
   refine WC.call hfi rfl rfl ?_
   rintro _ _ ⟨rfl,rfl⟩
   unfold Y0
   rcases j5 (C1 id es) with h|h
   · have hil:=hlt h
     obtain ⟨hld,hle⟩:=b1e hil
     have hml:((n7 id es:Int) < (es.length:Int))=True:=by simp; omega
     rw [if_pos h,List.getElem?_eq_getElem hil]
     revert hle
     generalize es[n7 id es]=e
     intro hle
     have ee:e.row=[.str e.t,.str e.id,.list false (e.ks.map j6),.list false (e.ls.map Val.row)]:=rfl
     rw [ee] at hle
     simp +contextual -implicitDefEqProofs only [K29,SS,rA,rS,rL,rE,reduceCtorEq,h,Bool.not_true,hml,if_true,ho,hld,hle]
     exact WC.ret ⟨_,_,rfl,rfl,rfl⟩
   · rw [h,if_neg (by decide)]
     simp +contextual -implicitDefEqProofs only [K29,SS,rA,rS,rL,rE,reduceCtorEq,h,Bool.not_false]
     exact WC.ret ⟨_,_,rfl,rfl,rfl⟩
end Go.Cb.CodeA
