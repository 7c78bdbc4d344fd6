/- What functions of the abstract machine answer. No conditions but those that each theorem names. -/
import Derived.Test.YthnliekianmljaaGreatDoorP5
set_option maxRecDepth 20000
set_option linter.unusedSimpArgs false
set_option linter.unusedVariables false
namespace Go.Cb.CodeA
open Go Go.Cb
open Nat renaming reduceAdd → rA,reduceSub → rS,reduceLeDiff → rL,reduceEqDiff → rE
attribute [local congr] i8 k4 k6 k7 j4 j3 l8 l7 V.runR_congr

theorem M2 (n:List Nat):eqN n n=true:=(u6 _ _).2 rfl
theorem b7w (n:Int):eqI n n=true:=by rw [eqI_eq]; simp
theorem a5N {gs:List Grp} {i:Nat} {g:Grp} (hg:gs[i]?=some g):(k9 gs).drop (i*2)=.str g.key::.sl g.fo 0 g.fs.length 7::(k9 gs).drop ((i+1)*2):=by
 obtain ⟨hil,e⟩:=List.getElem?_eq_some_iff.1 hg
 rw [L1,List.drop_eq_getElem_cons hil,e,w9,L1]
theorem c3s {c N:Nat} {st:St} {oa ob:AV} {gs gs':List Grp} (hA:GrpS c st oa gs) (hB:GrpT N st ob gs') (hpr:gs.map Grp.pr=gs'.map Grp.pr) (hfit:∀ g∈gs,∀ x∈g.fs,Fit x) (hlen:gs.length≤9000∧∀ g∈gs,g.fs.length≤9000) :
 EvQ tbl 15 [oa.weak,ob] st (fun a st'=>st'=st∧a=.bool true):=by
 have hgl:gs.length=gs'.length:=by have:=congrArg List.length hpr; simpa using this
 obtain ⟨A,hAA⟩:∃ A,A=oa.weak:=⟨_,rfl⟩
 rw [← hAA]
 have pA:Pln A:=by
  rw [hAA]
  rcases hA.out with ⟨_,rfl⟩|⟨o,rfl,_⟩
  · exact ⟨rfl,rfl,rfl,rfl⟩
  · exact ⟨rfl,rfl,rfl,rfl⟩
 have pB:Pln ob:=by
  rcases hB.out with ⟨_,rfl⟩|⟨o,rfl,_⟩
  · exact ⟨rfl,rfl,rfl,rfl⟩
  · exact ⟨rfl,rfl,rfl,rfl⟩
 have lA:∀ call bx,D3 call [A] bx st=some (.int .i64 gs.length,bx,st):=by
  intro call bx
  rw [hAA]
  rcases hA.out with ⟨rfl,rfl⟩|⟨o,rfl,_⟩
  · rfl
  · rfl
 have lB:∀ call bx,D3 call [ob] bx st=some (.int .i64 gs.length,bx,st):=by
  intro call bx
  rw [hgl]
  rcases hB.out with ⟨rfl,rfl⟩|⟨o,rfl,_⟩
  · rfl
  · rfl
 refine EvQ.body (fn:=a15) rfl rfl rfl ?_
 simp +contextual -implicitDefEqProofs only [K15,SS,rA,rS,rL,rE,reduceCtorEq,pA.st,pA.sb,pA.wk,pB.st,pB.sb,pB.wk,lA,lB,b7w]
 refine WC.loopR (fun mm fr st'=>st'=st∧∃ (i:Nat),i≤gs.length∧mm=gs.length - i∧fr=[A,ob,.bool false,.int .i64 i]) (m:=gs.length) ⟨rfl,0,Nat.zero_le _,rfl,rfl⟩ ?_
 rintro mm fr st' ⟨rfl,i,hi,rfl,rfl⟩
 simp +contextual -implicitDefEqProofs only [K15,SS,rA,rS,rL,rE,reduceCtorEq,pA.st,pA.sb,pA.wk,pB.st,pB.sb,pB.wk,lA]
 by_cases hil:i < gs.length
 rotate_left
 · simp +contextual -implicitDefEqProofs only [K15,SS,rA,rS,rL,rE,reduceCtorEq,hil]
   refine WC.leave ?_
   simp +contextual -implicitDefEqProofs only [K15,SS,rA,rS,rL,rE,reduceCtorEq]
   exact WC.ret ⟨_,_,rfl,rfl,rfl⟩
 rcases hA.out with ⟨rfl,_⟩|⟨o,rfl,hco,ho,hof⟩
 · simp at hil
 rcases hB.out with ⟨rfl,_⟩|⟨o2,rfl,hco2,ho2,hof2⟩
 · rw [hgl] at hil; simp at hil
 have hAA:A=.sl o 0 gs.length 2:=hAA
 subst hAA
 have hg:gs[i]?=some gs[i]:=List.getElem?_eq_getElem hil
 have hil2:i < gs'.length:=by omega
 have hg2:gs'[i]?=some gs'[i]:=List.getElem?_eq_getElem hil2
 have hgg:(gs[i]).pr=(gs'[i]).pr:=by
  have h1:(gs.map Grp.pr)[i]?=some (gs[i]).pr:=by rw [List.getElem?_map,hg]; rfl
  have h2:(gs'.map Grp.pr)[i]?=some (gs'[i]).pr:=by rw [List.getElem?_map,hg2]; rfl
  rw [hpr,h2] at h1
  exact (Option.some.inj h1).symm
 have hfi:=hfit _ (List.getElem_mem hil)
 have hln:=hlen.2 _ (List.getElem_mem hil)
 have hX:=(hA.fs _ (List.getElem_mem hil)).2
 have hX2:=(hB.fs _ (List.getElem_mem hil2)).2
 have hd:=a5N hg
 have hd2:=a5N hg2
 revert hgg hfi hln hX hX2 hd hd2
 generalize gs[i]=g
 generalize gs'[i]=g2
 intro hgg hfi hln hX hX2 hd hd2
 obtain ⟨gk,gf,gs1⟩:=g
 obtain ⟨gk2,gf2,gs2⟩:=g2
 have e1:gk=gk2∧gs1=gs2:=by simpa [Grp.pr] using hgg
 obtain ⟨rfl,rfl⟩:=e1
 dsimp only at hfi hln hX hX2 hd hd2
 have hlt:(i:Int) < (gs.length:Int):=by omega
 have hlt2:(i:Int) < (gs'.length:Int):=by omega
 have i1:=l5 (show i+1 < 2 ^ 63 by omega)
 have hkp:kept st' st' [AV.sl o2 0 gs'.length 2]=true:=by
  simp only [kept,M6,ho2,Bool.and_true]
  rw [X8]
 have hok:∀ x∈gs1,x.OK:=fun x hx=>(hfi x hx).1
 have ht1:=a2g gs1 hfi (by omega) (.sl gf 0 gs1.length 7) st' (Or.inr ⟨gf,rfl,hX⟩)
 have ht2:=a2g gs1 hfi (by omega) (.sl gf2 0 gs1.length 7) st' (Or.inr ⟨gf2,rfl,hX2⟩)
 have hsl:=a2o hok
 have ht3:=a2g (z8 gs1) (b4b hfi) (by omega) (.list false ((z8 gs1).map Sel.row)) st' (Or.inl rfl)
 have hsu:=d4K gk gs1 hok hln gf st' hX
 have hsu2:=d08 gk gs1 hok hln gf2 st' hX2
 generalize z8 gs1=sb at *
 generalize J6 sb=tsb at *
 generalize J6 gs1=tg at *
 generalize hm:gs1.length=m at *
 clear hm
 have h2:2≤((k9 gs).drop ((i+1)*2)).length+1+1:=by omega
 have h2':2≤((k9 gs').drop ((i+1)*2)).length+1+1:=by omega
 have hd1:(k9 gs).drop (i*2+1)=.sl gf 0 m 7::(k9 gs).drop ((i+1)*2):=by rw [← List.drop_drop,hd]; rfl
 have hd12:(k9 gs').drop (i*2+1)=.sl gf2 0 m 7::(k9 gs').drop ((i+1)*2):=by rw [← List.drop_drop,hd2]; rfl
 simp (config := { maxSteps := 1000000 }) +contextual -implicitDefEqProofs only [K15,SS,rA,rS,rL,rE,reduceCtorEq,hil,hlt,hlt2,ho,ho2,hd,hd2,hd1,hd12,Nat.zero_add,M2,M8,Nat.beq_refl,h2,h2']
 refine WC.callA ht1 rfl rfl ?_
 rintro _ _ ⟨rfl,rfl⟩
 refine ⟨hkp,?_⟩
 simp +contextual -implicitDefEqProofs only [K15,SS,rA,rS,rL,rE,reduceCtorEq,hlt,hlt2,ho,ho2,hd,hd2,hd1,hd12,Nat.zero_add,M2,M8,Nat.beq_refl,h2,h2',i1]
 refine WC.call ht2 rfl rfl ?_
 rintro _ _ ⟨rfl,rfl⟩
 simp +contextual -implicitDefEqProofs only [K15,SS,rA,rS,rL,rE,reduceCtorEq,hlt,hlt2,ho,ho2,hd,hd2,hd1,hd12,Nat.zero_add,M2,M8,Nat.beq_refl,h2,h2',i1]
 refine WC.callA hsu rfl rfl ?_
 rintro _ _ ⟨rfl,rfl⟩
 refine ⟨hkp,?_⟩
 simp +contextual -implicitDefEqProofs only [K15,SS,rA,rS,rL,rE,reduceCtorEq,hlt,hlt2,ho,ho2,hd,hd2,hd1,hd12,Nat.zero_add,M2,M8,Nat.beq_refl,h2,h2',i1]
 refine WC.callA ht3 rfl rfl ?_
 rintro _ _ ⟨rfl,rfl⟩
 refine ⟨hkp,?_⟩
 simp +contextual -implicitDefEqProofs only [K15,SS,rA,rS,rL,rE,reduceCtorEq,hlt,hlt2,ho,ho2,hd,hd2,hd1,hd12,Nat.zero_add,M2,M8,Nat.beq_refl,h2,h2',i1]
 refine WC.call hsu2 rfl rfl ?_
 rintro _ _ ⟨rfl,rfl⟩
 simp +contextual -implicitDefEqProofs only [K15,SS,rA,rS,rL,rE,reduceCtorEq,hlt,hlt2,ho,ho2,hd,hd2,hd1,hd12,Nat.zero_add,M2,M8,Nat.beq_refl,h2,h2',i1]
 refine WC.call ht3 rfl rfl ?_
 rintro _ _ ⟨rfl,rfl⟩
 simp +contextual -implicitDefEqProofs only [K15,SS,rA,rS,rL,rE,reduceCtorEq,hlt,hlt2,ho,ho2,hd,hd2,hd1,hd12,Nat.zero_add,M2,M8,Nat.beq_refl,h2,h2',i1]
 exact WC.next (m':=gs.length - (i+1)) (by omega) ⟨rfl,i+1,hil,rfl,rfl⟩
end Go.Cb.CodeA
