/- What functions of the abstract machine answer. No conditions but those that each theorem names. -/
import Derived.Test.YtbanbicfopmcbaaGreatDoorV6
set_option maxRecDepth 20000
set_option linter.unusedSimpArgs false
set_option linter.unusedVariables false
namespace Go.Cb.CodeA
open Go Go.Cb
open Nat renaming reduceAdd→rA,reduceSub→rS,reduceLeDiff→rL,reduceEqDiff→rE
attribute [local congr] N7 P5 V5 U5 Q8 Q1 Z1 a0e V.runR_congr
theorem a1i (a:Int):eqI a a=true:=by rw [eqI_eq]; simp
theorem z60:((60:Int)=0)=False:=by simp
theorem z2:((2:Int)=0)=False:=by simp
set_option maxHeartbeats 4000000 in
theorem c1e (n s:Int) (hn:0≤n∧n < 256) (hs:0≤s∧s < 256):EvQ tbl 3 [.int .u8 n,.int .u8 s] [] (fun r st'=>r=.bool true):=by
 obtain ⟨k,hk⟩:∃ k:Nat,n.tmod 60=k:=⟨(n.tmod 60).toNat,by have:=Int.tmod_nonneg 60 hn.1; omega⟩
 have hk60:k < 60:=by have:=Int.tmod_lt_of_pos n (show (0:Int) < 60 by decide); omega
 have wn:k9 .i64 n=n:=a0V (by omega) (by omega)
 have m2k:k9 .i64 (2*(k:Int))=((2*k:Nat):Int):=a0V (by omega) (by omega)
 refine EvQ.body (fn:=a3) rfl rfl rfl ?_
 simp +contextual -implicitDefEqProofs only [K3,SS,rA,rS,rL,rE,reduceCtorEq]
 refine WC.call (EvQ.of_ev (Go.Cb.G.ev_ofG c4H) (Q:=fun a st'=>a=b3A∧st'=T_aw) ⟨rfl,rfl⟩) rfl rfl ?_
 rintro _ _ ⟨rfl,rfl⟩
 simp +contextual -implicitDefEqProofs only [K3,SS,rA,rS,rL,rE,reduceCtorEq,b3A,Bool.not_true]
 refine WC.call b9w rfl rfl ?_
 rintro _ T0 ⟨rfl,hb0⟩
 simp +contextual -implicitDefEqProofs only [K3,SS,rA,rS,rL,rE,reduceCtorEq]
 refine WC.call (c07 hb0) rfl rfl ?_
 rintro _ T1 ⟨rfl,hN⟩
 generalize T0.length+1=vo at *
 generalize T0.length=mo at *
 simp +contextual -implicitDefEqProofs only [K3,SS,rA,rS,rL,rE,reduceCtorEq,wn,z60,hk,if_false]
 refine WC.loopR (fun mm fr T'=>∃ (i:Nat) (x7 x8 x9:AV),i≤2*k∧mm=2*k - i∧fr=[.int .u8 n,.int .u8 s,.bool false,.ptr 91 0,.ptr vo 0,.int .i64 k,.int .i64 i,x7,x8,x9,.undef,.undef,.undef,.undef,.undef,.undef,.undef,.undef,.undef]∧∃ v e b,NS T' vo mo (i:Int) 0 v (min i 2) [] (Bc (i:Int) e b 0 0 false)) (m:=2*k) ⟨0,_,_,_,Nat.zero_le _,rfl,rfl,_,_,_,hN⟩ ?_
 rintro mm fr T2 ⟨i,x7,x8,x9,hi,rfl,rfl,v,e,b,hN2⟩
 simp +contextual -implicitDefEqProofs only [K3,SS,rA,rS,rL,rE,reduceCtorEq,m2k,ltN]
 by_cases hil:i < 2*k
 · have r2:((i:Int).tmod 2)=((i % 2:Nat):Int):=rfl
   have wi:k9 .u64 (i:Int)=i:=L5 (by omega) (by omega)
   have wi1:k9 .u64 (O6 (i:Int) 1)=(i:Int)+1:=by rw [addI_eq]; exact L5 (by omega) (by omega)
   have hst:=c2v hN2 (show i < 200 by omega)
   simp +contextual -implicitDefEqProofs only [K3,SS,rA,rS,rL,rE,reduceCtorEq,hil,r2,z2,if_false]
   have hpar:i % 2=0∨i % 2=1:=by omega
   rcases hpar with hp|hp <;> rw [hp] at hst ⊢
   · simp +contextual -implicitDefEqProofs only [K3,SS,rA,rS,rL,rE,reduceCtorEq,show eqI ((0:Nat):Int) 1=false from rfl,wi,wi1]
     refine WC.call hst rfl rfl ?_
     rintro _ T3 ⟨⟨K,L,p,rfl,p1,p2,p3,p4,p5,p6,p7⟩,v',b',hN3⟩
     simp +contextual -implicitDefEqProofs only [K3,SS,rA,rS,rL,rE,reduceCtorEq,p1,p2,p3,p4,p5,p6,p7,show eqI 0 0=true from rfl,Bool.not_true,J0 (show i+1 < 2 ^ 63 by omega)]
     exact WC.next (m':=2*k - (i+1)) (by omega) ⟨i+1,_,_,_,hil,rfl,rfl,_,_,_,hN3⟩
   · simp +contextual -implicitDefEqProofs only [K3,SS,rA,rS,rL,rE,reduceCtorEq,show eqI ((1:Nat):Int) 1=true from rfl,wi,wi1]
     refine WC.call hst rfl rfl ?_
     rintro _ T3 ⟨⟨K,L,p,rfl,p1,p2,p3,p4,p5,p6,p7⟩,v',b',hN3⟩
     simp +contextual -implicitDefEqProofs only [K3,SS,rA,rS,rL,rE,reduceCtorEq,p1,p2,p3,p4,p5,p6,p7,show eqI 0 0=true from rfl,Bool.not_true,J0 (show i+1 < 2 ^ 63 by omega)]
     exact WC.next (m':=2*k - (i+1)) (by omega) ⟨i+1,_,_,_,hil,rfl,rfl,_,_,_,hN3⟩
 · obtain rfl:i=2*k:=by omega
   simp +contextual -implicitDefEqProofs only [K3,SS,rA,rS,rL,rE,reduceCtorEq,hil]
   refine WC.leave ?_
   simp +contextual -implicitDefEqProofs only [K3,SS,rA,rS,rL,rE,reduceCtorEq]
   refine WC.loopR (fun mm fr T'=>∃ (j:Nat) (x11 x12 x13 x14:AV),j≤k∧mm=k - j∧fr=[.int .u8 n,.int .u8 s,.bool false,.ptr 91 0,.ptr vo 0,.int .i64 k,.int .i64 ((2*k:Nat):Int),x7,x8,x9,.int .i64 j,x11,x12,x13,x14,.undef,.undef,.undef,.undef]∧S2 T' vo mo k j) (m:=k) ⟨0,_,_,_,_,Nat.zero_le _,rfl,rfl,v,_,e,b,_,_,hN2⟩ ?_
   rintro mm fr T3 ⟨j,x11,x12,x13,x14,hj,rfl,rfl,hS⟩
   simp +contextual -implicitDefEqProofs only [K3,SS,rA,rS,rL,rE,reduceCtorEq,ltN]
   by_cases hjl:j < k
   · have q1:k9 .i64 (2*(j:Int))=((2*j:Nat):Int):=a0V (by omega) (by omega)
     have q2:k9 .u64 ((2*j:Nat):Int)=((2*j:Nat):Int):=L5 (by omega) (by omega)
     have q3:k9 .u64 (O6 ((2*j:Nat):Int) 1)=((2*j:Nat):Int)+1:=by rw [addI_eq]; exact L5 (by omega) (by omega)
     have q4:k9 .u64 (O6 ((2*j:Nat):Int) 2)=((2*j+1:Nat):Int)+1:=by rw [addI_eq,L5 (by omega) (by omega)]; omega
     simp +contextual -implicitDefEqProofs only [K3,SS,rA,rS,rL,rE,reduceCtorEq,hjl,q1,q2,q3]
     refine WC.call (c0e hS hjl hk60) rfl rfl ?_
     rintro _ T4 ⟨⟨K,L,p,rfl,p1,p2,p3,p4,p5,p6,p7⟩,v',s1,e1,b1,e2,b2,hN4⟩
     simp +contextual -implicitDefEqProofs only [K3,SS,rA,rS,rL,rE,reduceCtorEq,p1,p2,p3,p4,p5,p6,p7,q1,q2,q4]
     refine WC.call (b9E hN4 hjl hk60) rfl rfl ?_
     rintro _ T5 ⟨⟨K',L',p',rfl,p1',p2',p3',p4',p5',p6',p7'⟩,hS5⟩
     simp +contextual -implicitDefEqProofs only [K3,SS,rA,rS,rL,rE,reduceCtorEq,p1',p2',p3',p4',p5',p6',p7',show eqI 0 0=true from rfl,Bool.not_true,J0 (show j+1 < 2 ^ 63 by omega)]
     exact WC.next (m':=k - (j+1)) (by omega) ⟨j+1,_,_,_,_,hjl,rfl,rfl,hS5⟩
   · obtain rfl:j=k:=by omega
     obtain ⟨v5,s1,e1,b1,e2,b2,hN5⟩:=hS
     obtain ⟨r,hr⟩:∃ r:Nat,s.tmod ((2*j+1:Nat):Int)=r:=⟨(s.tmod ((2*j+1:Nat):Int)).toNat,by have:=Int.tmod_nonneg ((2*j+1:Nat):Int) hs.1; omega⟩
     have hrl:r≤2*j:=by have:=Int.tmod_lt_of_pos s (show (0:Int) < ((2*j+1:Nat):Int) by omega); omega
     have t1:k9 .u64 ((2*j:Nat):Int)=((2*j:Nat):Int):=L5 (by omega) (by omega)
     have ws:k9 .u64 s=s:=L5 (by omega) (by omega)
     have t2:k9 .u64 (O6 ((2*j:Nat):Int) 1)=((2*j+1:Nat):Int):=by rw [addI_eq,L5 (by omega) (by omega)]; omega
     have tz:(((2*j+1:Nat):Int)=0)=False:=eq_false (by omega)
     have t3:k9 .u64 (O6 ((2*j:Nat):Int) (r:Int))=((2*j+r:Nat):Int):=by rw [addI_eq,L5 (by omega) (by omega)]; omega
     simp +contextual -implicitDefEqProofs only [K3,SS,rA,rS,rL,rE,reduceCtorEq,hjl]
     refine WC.leave ?_
     simp +contextual -implicitDefEqProofs only [K3,SS,rA,rS,rL,rE,reduceCtorEq,m2k,t1,ws,t2,tz,hr,t3,if_false]
     have hq:2*j+r≤4*j:=by omega
     generalize hqq:2*j+r=q at *
     have hch:=b1T hN5 (show min (2*j) 2 < 3 by omega) (by rw [Y2]; omega) (q:Int) (by omega)
     rw [show 2*j+2*j=4*j by omega] at hch
     have hSL:∃ S L,Z6 (q:Int) (flK j j) ((4*j:Nat):Int)=S∧I6 (vsK j j) S=L∧(((q:Int) < flK j j∨q=0)→S=0∧L=false)∧(¬ ((q:Int) < flK j j∨q=0)→S=q∧L=decide (q < 4*j)):=by
      refine ⟨_,_,rfl,rfl,fun h=>?_,fun h=>?_⟩
      · have e0:Z6 (q:Int) (flK j j) ((4*j:Nat):Int)=0:=by
         unfold Z6
         rcases h with h|h
         · rw [show ltI (q:Int) (flK j j)=true by rw [ltI_eq]; exact decide_eq_true h]; rfl
         · subst h
           cases (ltI ((0:Nat):Int) (flK j j) || ltI ((4*j:Nat):Int) ((0:Nat):Int)) <;> rfl
        rw [e0]
        exact ⟨rfl,rfl⟩
      · have h1:¬ (q:Int) < flK j j:=fun x=>h (.inl x)
        have h2:q≠0:=fun x=>h (.inr x)
        have e0:Z6 (q:Int) (flK j j) ((4*j:Nat):Int)=q:=by
         unfold Z6
         rw [show ltI (q:Int) (flK j j)=false by rw [ltI_eq]; exact decide_eq_false h1,show ltI ((4*j:Nat):Int) (q:Int)=false by rw [ltI_eq]; exact decide_eq_false (by omega)]
         rfl
        rw [e0]
        exact ⟨rfl,b8D ⟨by omega,hq⟩ (by omega)⟩
     obtain ⟨S,L,eS,eL,hS1,hS2⟩:=hSL
     rw [eS,eL] at hch
     refine WC.call hch rfl rfl ?_
     rintro _ T6 ⟨t,o1,o2,rfl⟩
     have h4:k9 .i64 (4*(j:Int))=((4*j:Nat):Int):=a0V (by omega) (by omega)
     have h4u:k9 .u64 ((4*j:Nat):Int)=((4*j:Nat):Int):=L5 (by omega) (by omega)
     have hgl:∀ call bx st,r8 call [.list false (gsV L)] bx st=some (.int .i64 (bif L then 1 else 0),bx,st):=fun _ _ _=>by cases L <;> rfl
     have hfl:ltI 40 (j:Int)=decide (40 < j):=by rw [ltI_eq]; exact decide_eq_decide.2 (by omega)
     have hq4:ltI (q:Int) ((4*j:Nat):Int)=decide (q < 4*j):=by rw [ltI_eq]; exact decide_eq_decide.2 (by omega)
     have hq0:eqI (q:Int) 0=decide (q=0):=by rw [eqI_eq]; exact decide_eq_decide.2 (by omega)
     have e00:eqI 0 0=true:=rfl
     have e11:eqI 1 1=true:=rfl
     have e01:eqI 0 1=false:=rfl
     have ez:eqI ((0:Nat):Int) 0=true:=rfl
     simp +contextual -implicitDefEqProofs only [K3,SS,rA,rS,rL,rE,reduceCtorEq,hfl]
     by_cases h40:40 < j
     · have f1:k9 .i64 (a36 (j:Int) 40)=((j - 40:Nat):Int):=by rw [subI_eq,a0V (by omega) (by omega)]; omega
       have f2:k9 .u64 ((j - 40:Nat):Int)=((j - 40:Nat):Int):=L5 (by omega) (by omega)
       have f3:k9 .u64 (2*((j - 40:Nat):Int))=((2*(j - 40):Nat):Int):=by rw [L5 (by omega) (by omega)]; omega
       have f4:k9 .u64 (O6 ((2*j:Nat):Int) ((2*(j - 40):Nat):Int))=((2*j+2*(j - 40):Nat):Int):=by rw [addI_eq,L5 (by omega) (by omega)]; omega
       have hF:((2*j+2*(j - 40):Nat):Int)=flK j j:=by unfold flK; rw [if_pos h40]
       have hqF:ltI (q:Int) ((2*j+2*(j - 40):Nat):Int)=decide ((q:Int) < flK j j):=by rw [hF,ltI_eq]
       rw [decide_eq_true h40]
       simp +contextual -implicitDefEqProofs only [K3,SS,rA,rS,rL,rE,reduceCtorEq,m2k,t1,f1,f2,f3,f4,h4,h4u,hq4,hqF,hq0]
       by_cases h:(q:Int) < flK j j∨q=0
       · obtain ⟨rfl,rfl⟩:=hS1 h
         rw [show (decide ((q:Int) < flK j j) || decide (q=0))=true by rw [← Bool.decide_or]; exact decide_eq_true h]
         simp +contextual -implicitDefEqProofs only [K3,SS,rA,rS,rL,rE,reduceCtorEq,hgl,cond_false,e00,ez]
         exact WC.ret ⟨_,_,rfl,rfl⟩
       · obtain ⟨rfl,rfl⟩:=hS2 h
         rw [show (decide ((q:Int) < flK j j) || decide (q=0))=false by rw [← Bool.decide_or]; exact decide_eq_false h]
         revert hgl
         generalize decide (q < 4*j)=D
         intro hgl
         cases D with
         | false =>
          simp +contextual -implicitDefEqProofs only [K3,SS,rA,rS,rL,rE,reduceCtorEq,hgl,cond_false,a1i,e01,e00,ez]
          exact WC.ret ⟨_,_,rfl,rfl⟩
         | true =>
          simp +contextual -implicitDefEqProofs only [K3,SS,rA,rS,rL,rE,reduceCtorEq,hgl,cond_true,a1i,e11,e00,ez]
          exact WC.ret ⟨_,_,rfl,rfl⟩
     · have hqF:ltI (q:Int) 0=decide ((q:Int) < flK j j):=by rw [show flK j j=0 by unfold flK; rw [if_neg h40],ltI_eq]
       rw [decide_eq_false h40]
       simp +contextual -implicitDefEqProofs only [K3,SS,rA,rS,rL,rE,reduceCtorEq,h4,h4u,hq4,hqF,hq0]
       by_cases h:(q:Int) < flK j j∨q=0
       · obtain ⟨rfl,rfl⟩:=hS1 h
         rw [show (decide ((q:Int) < flK j j) || decide (q=0))=true by rw [← Bool.decide_or]; exact decide_eq_true h]
         simp +contextual -implicitDefEqProofs only [K3,SS,rA,rS,rL,rE,reduceCtorEq,hgl,cond_false,e00,ez]
         exact WC.ret ⟨_,_,rfl,rfl⟩
       · obtain ⟨rfl,rfl⟩:=hS2 h
         rw [show (decide ((q:Int) < flK j j) || decide (q=0))=false by rw [← Bool.decide_or]; exact decide_eq_false h]
         revert hgl
         generalize decide (q < 4*j)=D
         intro hgl
         cases D with
         | false =>
          simp +contextual -implicitDefEqProofs only [K3,SS,rA,rS,rL,rE,reduceCtorEq,hgl,cond_false,a1i,e01,e00,ez]
          exact WC.ret ⟨_,_,rfl,rfl⟩
         | true =>
          simp +contextual -implicitDefEqProofs only [K3,SS,rA,rS,rL,rE,reduceCtorEq,hgl,cond_true,a1i,e11,e00,ez]
          exact WC.ret ⟨_,_,rfl,rfl⟩
theorem b7S (n s:Int) (hn:0≤n∧n < 256) (hs:0≤s∧s < 256):∃ k st',k5 tbl k 3 [.int .u8 n,.int .u8 s] []=some (.bool true,st'):=by
 obtain ⟨r,st',⟨k,hk⟩,rfl⟩:=c1e n s hn hs
 exact ⟨k,st',hk⟩
end Go.Cb.CodeA
