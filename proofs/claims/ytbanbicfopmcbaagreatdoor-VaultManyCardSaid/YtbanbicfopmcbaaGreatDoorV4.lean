import Derived.Test.YtbanbicfopmcbaaGreatDoorV3
set_option maxRecDepth 20000
set_option linter.unusedSimpArgs false
set_option linter.unusedVariables false
namespace Go.Cb.CodeA
open Go Go.Cb
open Nat renaming reduceAdd→rA,reduceSub→rS,reduceLeDiff→rL,reduceEqDiff→rE
attribute [local congr] N7 P5 V5 U5 Q8 Q1 Z1 a0e V.runR_congr
/-- what is known of the five clients: of two of them something -/
def Bc (s1 e1:Int) (b1:Bool) (s2 e2:Int) (b2:Bool):List AV:=[.int .u64 0,.int .i64 0,.bool false,.int .u64 s1,.int .i64 e1,.bool b1,.int .u64 s2,.int .i64 e2,.bool b2,.int .u64 0,.int .i64 0,.bool false,.int .u64 0,.int .i64 0,.bool false]
def PW (p:AV):Prop:=p.weak=p∧p.weak1=p∧p.strip=p∧p.stripB=p∧p.plain=true∧p.cells=[p]∧p.cellsW=[p]
/-- what Apply answers -/
def a4W (r:AV):Prop:=∃ K L p,r=.tuple [.agg [.int .i64 0,.int .u8 6,.int .i64 0,.str [],.list false K,.list false L,p],.int .i64 0]∧PW p
theorem L5 {x:Int} (h0:0≤x) (h1:x < 2 ^ 60):k9 .u64 x=x:=by
 rw [L8]
 simp [IntKind.wrap,IntKind.signed,IntKind.bits]
 omega
theorem b72 {T:St} {vo mo:Nat} {ver floor:Int} {v:AV} {n n2 d:Nat} {bad:Bool} {G:List (List AV)} {s1 e1 s2 e2:Int} {b1 b2:Bool} (F:FD d n n2 bad) (h:NS T vo mo ver floor v n G (Bc s1 e1 b1 s2 e2 b2)) (hn:n < 4) (hn2:n2 < 4) (hle:n≤n2+1) (hG:G.length≤40)
 (hGr:∀ r∈G,∃ s t x,r=[.str s,.str t,.int .u64 x]) (hver:0≤ver∧ver < 1000) (hs:0≤s1∧s1 < 1000) :
 EvQ tbl 8 [.ptr vo 0,.int .i64 1,.agg [.int .u64 (s1+1),.str (a1d d),.int .u8 6,.int .i64 0,.str [],.list false [],.list false []]] T
  (fun r T'=>a4W r∧∃ v' b',NS T' vo mo (ver+1) (flo floor (G++gr n2 (ver+1) n) ((G++gr n2 (ver+1) n).length - 40)) v' n2 ((G++gr n2 (ver+1) n).drop ((G++gr n2 (ver+1) n).length - 40)) (Bc (s1+1) 0 b' s2 e2 b2)):=by
 have hov:=h.ov
 unfold cV Bc at hov
 obtain ⟨u1,u2,u3,u4,u5,u6,u7⟩:=h.ev.wk
 have c1:ltI s1 (s1+1)=true:=by rw [ltI_eq]; exact decide_eq_true (by omega)
 have c2:k9 .u64 (O6 s1 1)=s1+1:=by rw [addI_eq]; exact L5 (by omega) (by omega)
 have c3:ltI (s1+1) (s1+1)=false:=by rw [ltI_eq]; exact decide_eq_false (by omega)
 have c4:eqI (s1+1) 0=false:=by rw [eqI_eq]; exact decide_eq_false (by omega)
 have c5:k9 .u64 (O6 ver 1)=ver+1:=by rw [addI_eq]; exact L5 (by omega) (by omega)
 have c15:((1:Int) < ((5:Nat):Int))=True:=by simp
 have hchk:EvQ tbl 16 [.ptr vo 0,.int .i64 1,.int .u64 (s1+1)] T (fun r T'=>r=.int .i64 0∧T'=T):=by
  refine EvQ.body (fn:=a16) rfl rfl rfl ?_
  simp +contextual -implicitDefEqProofs only [K16,SS,rA,rS,rL,rE,reduceCtorEq,hov,c1,c2,c3,c4,show ltI 1 0=false from rfl,show ltI 1 5=true from rfl,Bool.not_true,Bool.not_false,c15,if_true,Nat.reduceMul]
  exact WC.ret ⟨_,_,rfl,rfl,rfl⟩
 refine EvQ.body (fn:=a8) rfl rfl rfl ?_
 simp +contextual -implicitDefEqProofs only [K8,SS,rA,rS,rL,rE,reduceCtorEq]
 refine WC.call hchk rfl rfl ?_
 rintro _ _ ⟨rfl,h7⟩
 replace h7:=h7.symm
 subst h7
 simp +contextual -implicitDefEqProofs only [K8,SS,rA,rS,rL,rE,reduceCtorEq,show eqI 0 0=true from rfl,Bool.not_true,hov,u1,u2,u3,u4,u5,u6,u7]
 refine WC.call (b9b F h.bs h.ev) rfl (by simp only [List.map_cons,List.map_nil,E3,u2]; rfl) ?_
 rintro _ T1 ⟨v',K,L,p,rfl,hv1,hg1,hp⟩
 have hN1:=h.gr hg1
 obtain ⟨w1,w2,w3,w4,w5,w6,w7⟩:=hv1.wk
 have hpw:PW p:=by rcases hp with rfl|⟨o,rfl⟩ <;> exact ⟨rfl,rfl,rfl,rfl,rfl,rfl,rfl⟩
 obtain ⟨np,hlp⟩:∃ np:Int,∀ call bx st,r8 call [p] bx st=some (.int .i64 np,bx,st):=by rcases hp with rfl|⟨o,rfl⟩ <;> exact ⟨_,fun _ _ _=>rfl⟩
 obtain ⟨p1,p2,p3,p4,p5,p6,p7⟩:=id hpw
 have hov1:=hN1.ov
 unfold cV Bc at hov1
 have hN2:=hN1.setv (ver':=ver+1) (floor':=floor) (G':=G) (B':=Bc s1 e1 b1 s2 e2 b2) hN1.ev
 have hv2:=hv1.setv hN1.ov (.cells (cV (ver+1) floor v mo G (Bc s1 e1 b1 s2 e2 b2)))
 have hnt:=b0X hN2 hv2 hn hn2 hle hG hGr
 unfold cV Bc at hnt
 simp +contextual -implicitDefEqProofs only [K8,SS,rA,rS,rL,rE,reduceCtorEq,w1,w2,w3,w4,w5,w6,w7,p1,p2,p3,p4,p5,p6,p7,hov1,c5]
 refine WC.call hnt rfl (by simp only [List.map_cons,List.map_nil,E3,w2]; rfl) ?_
 rintro _ T2 ⟨rfl,hN3⟩
 clear hnt
 generalize flo floor (G++gr n2 (ver+1) n) ((G++gr n2 (ver+1) n).length - 40)=fl at *
 generalize (G++gr n2 (ver+1) n).drop ((G++gr n2 (ver+1) n).length - 40)=G2 at *
 have hov3:=hN3.ov
 unfold cV at hov3
 have hN4:=hN3.setv (ver':=ver+1) (floor':=fl) (G':=G2) (B':=Bc (s1+1) 0 (ltI 0 np) s2 e2 b2) hN3.ev
 obtain ⟨x1,x2,x3,x4,x5,x6,x7⟩:=hN3.ev.wk
 simp +contextual -implicitDefEqProofs only [K8,SS,rA,rS,rL,rE,reduceCtorEq,w1,w2,w3,w4,w5,w6,w7,p1,p2,p3,p4,p5,p6,p7,hov3,hlp,c15,if_true,Nat.reduceMul,x1,x2,x3,x4,x5,x6,x7]
 refine WC.ret ⟨_,_,rfl,⟨K,L,p,?_,hpw⟩,v',_,hN4⟩
 show AV.tuple [.agg [_,_,_,_,_,_,p.weak1],_]=_
 rw [p2]
 rfl
theorem b2p {T:St} {vo mo:Nat} {ver floor:Int} {v:AV} {n n2 d:Nat} {bad:Bool} {G:List (List AV)} {s1 e1 s2 e2:Int} {b1 b2:Bool} (F:FD d n n2 bad) (h:NS T vo mo ver floor v n G (Bc s1 e1 b1 s2 e2 b2)) (hn:n < 4) (hn2:n2 < 4) (hle:n≤n2+1) (hG:G.length≤40)
 (hGr:∀ r∈G,∃ s t x,r=[.str s,.str t,.int .u64 x]) (hver:0≤ver∧ver < 1000) (hs:0≤s2∧s2 < 1000) :
 EvQ tbl 8 [.ptr vo 0,.int .i64 2,.agg [.int .u64 (s2+1),.str (a1d d),.int .u8 6,.int .i64 0,.str [],.list false [],.list false []]] T
  (fun r T'=>a4W r∧∃ v' b',NS T' vo mo (ver+1) (flo floor (G++gr n2 (ver+1) n) ((G++gr n2 (ver+1) n).length - 40)) v' n2 ((G++gr n2 (ver+1) n).drop ((G++gr n2 (ver+1) n).length - 40)) (Bc s1 e1 b1 (s2+1) 0 b')):=by
 have hov:=h.ov
 unfold cV Bc at hov
 obtain ⟨u1,u2,u3,u4,u5,u6,u7⟩:=h.ev.wk
 have c1:ltI s2 (s2+1)=true:=by rw [ltI_eq]; exact decide_eq_true (by omega)
 have c2:k9 .u64 (O6 s2 1)=s2+1:=by rw [addI_eq]; exact L5 (by omega) (by omega)
 have c3:ltI (s2+1) (s2+1)=false:=by rw [ltI_eq]; exact decide_eq_false (by omega)
 have c4:eqI (s2+1) 0=false:=by rw [eqI_eq]; exact decide_eq_false (by omega)
 have c5:k9 .u64 (O6 ver 1)=ver+1:=by rw [addI_eq]; exact L5 (by omega) (by omega)
 have c15:((2:Int) < ((5:Nat):Int))=True:=by simp
 have hchk:EvQ tbl 16 [.ptr vo 0,.int .i64 2,.int .u64 (s2+1)] T (fun r T'=>r=.int .i64 0∧T'=T):=by
  refine EvQ.body (fn:=a16) rfl rfl rfl ?_
  simp +contextual -implicitDefEqProofs only [K16,SS,rA,rS,rL,rE,reduceCtorEq,hov,c1,c2,c3,c4,show ltI 2 0=false from rfl,show ltI 2 5=true from rfl,Bool.not_true,Bool.not_false,c15,if_true,Nat.reduceMul]
  exact WC.ret ⟨_,_,rfl,rfl,rfl⟩
 refine EvQ.body (fn:=a8) rfl rfl rfl ?_
 simp +contextual -implicitDefEqProofs only [K8,SS,rA,rS,rL,rE,reduceCtorEq]
 refine WC.call hchk rfl rfl ?_
 rintro _ _ ⟨rfl,h7⟩
 replace h7:=h7.symm
 subst h7
 simp +contextual -implicitDefEqProofs only [K8,SS,rA,rS,rL,rE,reduceCtorEq,show eqI 0 0=true from rfl,Bool.not_true,hov,u1,u2,u3,u4,u5,u6,u7]
 refine WC.call (b9b F h.bs h.ev) rfl (by simp only [List.map_cons,List.map_nil,E3,u2]; rfl) ?_
 rintro _ T1 ⟨v',K,L,p,rfl,hv1,hg1,hp⟩
 have hN1:=h.gr hg1
 obtain ⟨w1,w2,w3,w4,w5,w6,w7⟩:=hv1.wk
 have hpw:PW p:=by rcases hp with rfl|⟨o,rfl⟩ <;> exact ⟨rfl,rfl,rfl,rfl,rfl,rfl,rfl⟩
 obtain ⟨np,hlp⟩:∃ np:Int,∀ call bx st,r8 call [p] bx st=some (.int .i64 np,bx,st):=by rcases hp with rfl|⟨o,rfl⟩ <;> exact ⟨_,fun _ _ _=>rfl⟩
 obtain ⟨p1,p2,p3,p4,p5,p6,p7⟩:=id hpw
 have hov1:=hN1.ov
 unfold cV Bc at hov1
 have hN2:=hN1.setv (ver':=ver+1) (floor':=floor) (G':=G) (B':=Bc s1 e1 b1 s2 e2 b2) hN1.ev
 have hv2:=hv1.setv hN1.ov (.cells (cV (ver+1) floor v mo G (Bc s1 e1 b1 s2 e2 b2)))
 have hnt:=b0X hN2 hv2 hn hn2 hle hG hGr
 unfold cV Bc at hnt
 simp +contextual -implicitDefEqProofs only [K8,SS,rA,rS,rL,rE,reduceCtorEq,w1,w2,w3,w4,w5,w6,w7,p1,p2,p3,p4,p5,p6,p7,hov1,c5]
 refine WC.call hnt rfl (by simp only [List.map_cons,List.map_nil,E3,w2]; rfl) ?_
 rintro _ T2 ⟨rfl,hN3⟩
 clear hnt
 generalize flo floor (G++gr n2 (ver+1) n) ((G++gr n2 (ver+1) n).length - 40)=fl at *
 generalize (G++gr n2 (ver+1) n).drop ((G++gr n2 (ver+1) n).length - 40)=G2 at *
 have hov3:=hN3.ov
 unfold cV at hov3
 have hN4:=hN3.setv (ver':=ver+1) (floor':=fl) (G':=G2) (B':=Bc s1 e1 b1 (s2+1) 0 (ltI 0 np)) hN3.ev
 obtain ⟨x1,x2,x3,x4,x5,x6,x7⟩:=hN3.ev.wk
 simp +contextual -implicitDefEqProofs only [K8,SS,rA,rS,rL,rE,reduceCtorEq,w1,w2,w3,w4,w5,w6,w7,p1,p2,p3,p4,p5,p6,p7,hov3,hlp,c15,if_true,Nat.reduceMul,x1,x2,x3,x4,x5,x6,x7]
 refine WC.ret ⟨_,_,rfl,⟨K,L,p,?_,hpw⟩,v',_,hN4⟩
 show AV.tuple [.agg [_,_,_,_,_,_,p.weak1],_]=_
 rw [p2]
 rfl
end Go.Cb.CodeA
