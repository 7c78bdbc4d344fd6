import Derived.Test.YtbibkdncfclnbaaGreatDoorZs1
import Derived.Test.YtbibkdncfclnbaaGreatDoorYs1
set_option maxRecDepth 20000
set_option linter.unusedSimpArgs false
set_option linter.unusedVariables false
namespace Go.Cb.CodeA
open Go Go.Cb
open Nat renaming reduceAdd→rA,reduceSub→rS,reduceLeDiff→rL,reduceEqDiff→rE
attribute [local congr] g8 i7 j0 j1 i6 g9 j5 j4 V.runR_congr
theorem ProbAt.len {pv:AV} {ps:List (Pth×Int)} {st:St} (h:ProbAt pv ps st):∀ (call:b9) (bx:AV) (st:St),D7 call [pv] bx st=some (.int .i64 ps.length,bx,st):=fun call bx st=>by
 rcases h with ⟨rfl,rfl|rfl⟩|⟨o,rfl,_⟩ <;> rfl
theorem ProbAt.at {pv:AV} {ps:List (Pth×Int)} {st:St} (h:ProbAt pv ps st) {i:Nat} (hi:i < ps.length):∃ o,pv=.sl o 0 ps.length 2∧st[o]?=some (.cells (D1 ps)):=by
 rcases h with ⟨rfl,_⟩|h
 · cases hi
 · exact h
theorem a6e:∀ {ps:List (Pth×Int)} {i:Nat} (h:i < ps.length),j3 true 2 ((D1 ps).drop (i*2))=some (.agg [.list false (ps[i].1.map d8),.int .i64 ps[i].2])
 | p::ps,0,_=>rfl
 | p::ps,i+1,h=>by
  have ih:=a6e (ps:=ps) (i:=i) (by simpa using h)
  rw [show D1 (p::ps)=.list false (p.1.map d8)::.int .i64 p.2::D1 ps from rfl,show (i+1)*2=i*2+1+1 by omega]
  exact ih
/-- two answers of which the parts are the same -/
theorem b7D (e:Int) {D:Val} (hD:D.Fin) {ps:List (Pth×Int)} (hl:ps.length≤100000) (hpl:∀ x∈ps,x.1.length≤100000) {pv pv':AV} {st:St} (hp:ProbAt pv ps st) (hp':ProbAt pv' ps st) :
 EvQ tbl 20 [a7a e D pv,a7a e D pv'] st (fun a st'=>st'=st∧a=.bool true):=by
 have hs:=c4A hD st
 obtain ⟨u1,u2,u3,u4,u5,u6,u7⟩:=hp.wk
 obtain ⟨x1,x2,x3,x4,x5,x6,x7⟩:=hp'.wk
 have hln:=hp.len
 have hln':=hp'.len
 unfold a7a
 rw [D.row_eta] at hs
 refine EvQ.body (fn:=a20) rfl rfl rfl ?_
 simp +contextual -implicitDefEqProofs only [K20,SS,rA,rS,rL,rE,reduceCtorEq,a2h,Bool.not_true,u1,u2,u3,u4,u5,u6,u7,x1,x2,x3,x4,x5,x6,x7]
 refine WC.call hs rfl rfl ?_
 rintro _ st ⟨rfl,rfl⟩
 simp +contextual -implicitDefEqProofs only [K20,SS,rA,rS,rL,rE,reduceCtorEq,a2h,Bool.not_true,hln,hln',u1,u2,u3,u4,u5,u6,u7,x1,x2,x3,x4,x5,x6,x7]
 refine WC.loopR (fun mm fr st'=>st'=st∧∃ (i:Nat) (v6 v7 v8:AV),i≤ps.length∧mm=ps.length - i∧fr=[.agg [.int .i64 e,.int .u8 D.kind,.int .i64 D.num,.str D.text,.list false (D.names.map d8),.list false (D.vals.map Val.row),pv],.agg [.int .i64 e,.int .u8 D.kind,.int .i64 D.num,.str D.text,.list false (D.names.map d8),.list false (D.vals.map Val.row),pv'],
  .box [.int .i64 e,.int .u8 D.kind,.int .i64 D.num,.str D.text,.list false (D.names.map d8),.list false (D.vals.map Val.row),pv],.box [.int .i64 e,.int .u8 D.kind,.int .i64 D.num,.str D.text,.list false (D.names.map d8),.list false (D.vals.map Val.row),pv'],.bool false,.int .i64 i,v6,v7,v8]) (m:=ps.length) ⟨rfl,0,_,_,_,Nat.zero_le _,rfl,rfl⟩ ?_
 rintro mm fr st' ⟨rfl,i,v6,v7,v8,hi,rfl,rfl⟩
 simp +contextual -implicitDefEqProofs only [K20,SS,rA,rS,rL,rE,reduceCtorEq,ltN,hln,hln',u1,u2,u3,u4,u5,u6,u7,x1,x2,x3,x4,x5,x6,x7]
 by_cases hil:i < ps.length
 rotate_left
 · simp +contextual -implicitDefEqProofs only [K20,SS,rA,rS,rL,rE,reduceCtorEq,hil]
   refine WC.leave ?_
   simp +contextual -implicitDefEqProofs only [K20,SS,rA,rS,rL,rE,reduceCtorEq]
   exact WC.ret ⟨_,_,rfl,rfl,rfl⟩
 obtain ⟨o,eo,ho⟩:=hp.at hil
 obtain ⟨o',eo',ho'⟩:=hp'.at hil
 subst eo eo'
 have e2:=a6e hil
 have hpi:=hpl _ (List.getElem_mem hil)
 have hml:((i:Int) < (ps.length:Int))=True:=by simp; omega
 revert e2 hpi
 generalize ps[i]=z
 obtain ⟨zp,ze⟩:=z
 intro e2 hpi
 dsimp only at e2 hpi
 simp +contextual -implicitDefEqProofs only [K20,SS,rA,rS,rL,rE,reduceCtorEq,hil,hml,if_true,ho,ho',e2,a2h,Bool.not_true,List.length_map]
 refine WC.loopR (fun mm fr st''=>st''=st'∧∃ (j:Nat),j≤zp.length∧mm=zp.length - j∧fr=[.agg [.int .i64 e,.int .u8 D.kind,.int .i64 D.num,.str D.text,.list false (D.names.map d8),.list false (D.vals.map Val.row),.sl o 0 ps.length 2],.agg [.int .i64 e,.int .u8 D.kind,.int .i64 D.num,.str D.text,.list false (D.names.map d8),.list false (D.vals.map Val.row),.sl o' 0 ps.length 2],
  .box [.int .i64 e,.int .u8 D.kind,.int .i64 D.num,.str D.text,.list false (D.names.map d8),.list false (D.vals.map Val.row),.sl o 0 ps.length 2],.box [.int .i64 e,.int .u8 D.kind,.int .i64 D.num,.str D.text,.list false (D.names.map d8),.list false (D.vals.map Val.row),.sl o' 0 ps.length 2],.bool false,.int .i64 i,.box [.list false (zp.map d8),.int .i64 ze],.box [.list false (zp.map d8),.int .i64 ze],.int .i64 j]) (m:=zp.length) ⟨rfl,0,Nat.zero_le _,rfl,rfl⟩ ?_
 rintro mm fr st'' ⟨rfl,j,hj,rfl,rfl⟩
 simp +contextual -implicitDefEqProofs only [K20,SS,rA,rS,rL,rE,reduceCtorEq,ltN,List.length_map]
 by_cases hjl:j < zp.length
 · have e3:=a6I hjl
   simp +contextual -implicitDefEqProofs only [K20,SS,rA,rS,rL,rE,reduceCtorEq,hjl,e3,a0J,Bool.not_true,r8 (show j+1 < 2 ^ 63 by omega)]
   exact WC.next (m':=zp.length - (j+1)) (by omega) ⟨rfl,j+1,hjl,rfl,rfl⟩
 · simp +contextual -implicitDefEqProofs only [K20,SS,rA,rS,rL,rE,reduceCtorEq,hjl]
   refine WC.leave ?_
   simp +contextual -implicitDefEqProofs only [K20,SS,rA,rS,rL,rE,reduceCtorEq,r8 (show i+1 < 2 ^ 63 by omega)]
   exact WC.next (m':=ps.length - (i+1)) (by omega) ⟨rfl,i+1,_,_,_,hil,rfl,rfl⟩
end Go.Cb.CodeA
