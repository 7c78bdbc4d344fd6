import Derived.Test.YthnliekianmljaaGreatDoorW1
import Derived.Test.YthnliekianmljaaGreatDoorR6
set_option maxRecDepth 20000
set_option linter.unusedSimpArgs false
set_option linter.unusedVariables false
namespace Go.Cb.CodeA
open Go Go.Cb
open Nat renaming reduceAdd → rA,reduceSub → rS,reduceLeDiff → rL,reduceEqDiff → rE
attribute [local congr] i8 k4 k6 k7 j4 j3 l8 l7 V.runR_congr

/-- a function that says a text, no longer than m, whatever the store -/
def a1O (f:Nat) (as:List AV) (m:Nat):Prop:=∃ t:List Nat,t.length≤m∧∀ st,EvQ tbl f as st (fun a st'=>st'=st∧a=.str t)
theorem a6k {n:Int} (h0:0≤n) (h:n < 18446744073709551616):IntKind.u64.wrap n=n:=by
 simp [IntKind.wrap,IntKind.signed,IntKind.bits]
 omega
theorem c0E (n:Int):0≤IntKind.u64.wrap n∧IntKind.u64.wrap n < 18446744073709551616:=by
 simp [IntKind.wrap,IntKind.signed,IntKind.bits]
 omega
theorem b3F {n:Int} (h0:0≤n) (h:n < 256):IntKind.u8.wrap n=n:=by
 simp [IntKind.wrap,IntKind.signed,IntKind.bits]
 omega
theorem b8f:∀ (k:Nat) (n:Int),k≤100→0≤n→n < 10 ^ (k+1)→n < 18446744073709551616→a1O 135 [.int .u64 n] (k+1):=by
 intro k
 induction k with
 | zero =>
  intro n hk h0 h1 h2
  have h10:n < 10:=by simpa using h1
  refine ⟨[48+n.toNat],by simp,fun st=>?_⟩
  refine EvQ.body (fn:=a135) rfl rfl rfl ?_
  have e1:ltI n 10=true:=by rw [ltI_eq]; simp [h10]
  have e2:l9 .u8 (l9 .u64 (P4 48 n))=48+n:=by rw [addI_eq,z7,z7,a6k (by omega) (by omega),b3F (by omega) (by omega)]
  have e3:0≤48+n∧48+n < 256:=by omega
  have e4:(48+n).toNat=48+n.toNat:=by omega
  simp +contextual -implicitDefEqProofs only [a7f,SS,rA,rS,rL,rE,reduceCtorEq,e1,e2,e3,e4]
  exact WC.ret ⟨_,_,rfl,rfl,rfl⟩
 | succ k ih =>
  intro n hk h0 h1 h2
  have hq:n.tdiv 10=n / 10:=by rw [Int.tdiv_eq_ediv_of_nonneg h0]
  have hm:n.tmod 10=n % 10:=by rw [Int.tmod_eq_emod_of_nonneg h0]
  have hq2:IntKind.u64.wrap (n.tdiv 10)=n / 10:=by rw [hq]; exact a6k (by omega) (by omega)
  have h1':n / 10 < 10 ^ (k+1):=by
   rw [Int.pow_succ] at h1
   omega
  obtain ⟨t1,l1,g1⟩:=ih (n / 10) (by omega) (by omega) h1' (by omega)
  have one:a1O 135 [.int .u64 (n % 10)] 1:=by
   clear g1 l1 t1 h1 h1' hq hq2 hm
   have h10:n % 10 < 10:=by omega
   have h0':0≤n % 10:=by omega
   revert h10 h0'
   generalize n % 10=n
   intro h10 h0
   refine ⟨[48+n.toNat],by simp,fun st=>?_⟩
   refine EvQ.body (fn:=a135) rfl rfl rfl ?_
   have e1:ltI n 10=true:=by rw [ltI_eq]; simp [h10]
   have e2:l9 .u8 (l9 .u64 (P4 48 n))=48+n:=by rw [addI_eq,z7,z7,a6k (by omega) (by omega),b3F (by omega) (by omega)]
   have e3:0≤48+n∧48+n < 256:=by omega
   have e4:(48+n).toNat=48+n.toNat:=by omega
   simp +contextual -implicitDefEqProofs only [a7f,SS,rA,rS,rL,rE,reduceCtorEq,e1,e2,e3,e4]
   exact WC.ret ⟨_,_,rfl,rfl,rfl⟩
  obtain ⟨t2,l2,g2⟩:=one
  by_cases h10:n < 10
  · refine ⟨[48+n.toNat],by simp,fun st=>?_⟩
    refine EvQ.body (fn:=a135) rfl rfl rfl ?_
    have e1:ltI n 10=true:=by rw [ltI_eq]; simp [h10]
    have e2:l9 .u8 (l9 .u64 (P4 48 n))=48+n:=by rw [addI_eq,z7,z7,a6k (by omega) (by omega),b3F (by omega) (by omega)]
    have e3:0≤48+n∧48+n < 256:=by omega
    have e4:(48+n).toNat=48+n.toNat:=by omega
    simp +contextual -implicitDefEqProofs only [a7f,SS,rA,rS,rL,rE,reduceCtorEq,e1,e2,e3,e4]
    exact WC.ret ⟨_,_,rfl,rfl,rfl⟩
  refine ⟨t1++t2,by rw [List.length_append]; omega,fun st=>?_⟩
  refine EvQ.body (fn:=a135) rfl rfl rfl ?_
  have e1:ltI n 10=false:=by rw [ltI_eq]; simp; omega
  have e5:((10:Int)=0)=False:=by simp
  have e6:t1.length+t2.length≤2 ^ 62:=by omega
  simp +contextual -implicitDefEqProofs only [a7f,SS,rA,rS,rL,rE,reduceCtorEq,e1,hq2,hm,e5]
  refine WC.call (g1 _) rfl rfl ?_
  rintro _ _ ⟨rfl,rfl⟩
  simp +contextual -implicitDefEqProofs only [a7f,SS,rA,rS,rL,rE,reduceCtorEq,hm,e5]
  refine WC.call (g2 _) rfl rfl ?_
  rintro _ _ ⟨rfl,rfl⟩
  simp +contextual -implicitDefEqProofs only [a7f,SS,rA,rS,rL,rE,reduceCtorEq,e6]
  exact WC.ret ⟨_,_,rfl,rfl,rfl⟩
theorem d3Z (n:Int):a1O 130 [.int .i64 n] 22:=by
 have dig:∀ x,a1O 135 [.int .u64 (l9 .u64 x)] 20:=fun x=>by
  obtain ⟨h1,h2⟩:=c0E x
  rw [z7]
  exact b8f 19 _ (by decide) h1 (by omega) h2
 rcases k8 (ltI n 0) with h|h
 · obtain ⟨t,hl,hg⟩:=dig (P4 (l9 .u64 (l9 .i64 (0 - l9 .i64 (P4 n 1)))) 1)
   have e6:1+t.length≤2 ^ 62:=by omega
   refine ⟨45::t,by simp; omega,fun st=>?_⟩
   refine EvQ.body (fn:=a130) rfl rfl rfl ?_
   simp +contextual -implicitDefEqProofs only [b3q,SS,rA,rS,rL,rE,reduceCtorEq,h]
   refine WC.call (hg _) rfl rfl ?_
   rintro _ _ ⟨rfl,rfl⟩
   simp +contextual -implicitDefEqProofs only [b3q,SS,rA,rS,rL,rE,reduceCtorEq,e6]
   exact WC.ret ⟨_,_,rfl,rfl,rfl⟩
 · obtain ⟨t,hl,hg⟩:=dig n
   refine ⟨t,by omega,fun st=>?_⟩
   refine EvQ.body (fn:=a130) rfl rfl rfl ?_
   simp +contextual -implicitDefEqProofs only [b3q,SS,rA,rS,rL,rE,reduceCtorEq,h]
   refine WC.call (hg _) rfl rfl ?_
   rintro _ _ ⟨rfl,rfl⟩
   simp +contextual -implicitDefEqProofs only [b3q,SS,rA,rS,rL,rE,reduceCtorEq]
   exact WC.ret ⟨_,_,rfl,rfl,rfl⟩
def pre (g:Nat→List Nat):Nat→List Nat
 | 0=>[]
 | i+1=>pre g i++g i
theorem O5 {g:Nat→List Nat} {α:Type} {μ:α→Nat} {l:List α} (h:∀ i (hi:i < l.length),(g i).length≤μ l[i]):∀ i,i≤l.length→(pre g i).length≤wS μ (l.take i)
 | 0,_=>by simp [pre]
 | i+1,hi=>by
  rw [pre,List.length_append,List.take_add_one,List.getElem?_eq_getElem (by omega)]
  simp only [Option.toList_some]
  rw [j5,j7]
  have:=O5 h i (by omega)
  have:=h i (by omega)
  omega
theorem R2 {α:Type} (μ:α→Nat) (l:List α) (i:Nat):wS μ (l.take i)≤wS μ l:=by
 have h:wS μ l=wS μ (l.take i)+wS μ (l.drop i):=by rw [← j5,List.take_append_drop]
 omega
def U1 (b:Nat):List Nat:=if eqI (b:Int) 10 then [92,110] else (if eqI (b:Int) 9 then [92,116] else (if eqI (b:Int) 34 then [92,34] else (if eqI (b:Int) 92 then [92,92] else [b])))
theorem b8h (b:Nat):(U1 b).length≤2:=by
 unfold U1
 split
 · decide
 split
 · decide
 split
 · decide
 split
 · decide
 · simp
theorem c2F (s:List Nat) (hs:s.length≤2 ^ 50):a1O 131 [.str s] (2*s.length+2):=by
 have hp:=O5 (g:=fun i=>U1 (s.getD i 0)) (μ:=fun _=>2) (l:=s) (fun i hi=>b8h _)
 have hw:wS (fun _=>2) s=2*s.length:=by
  clear hp hs
  induction s with
  | nil=>rfl
  | cons x s ih=>rw [wS,ih,List.length_cons]; omega
 have hq:=hp s.length (Nat.le_refl _)
 rw [List.take_length,hw] at hq
 refine ⟨34::pre (fun i=>U1 (s.getD i 0)) s.length++[34],by rw [List.length_append,List.length_cons]; show _+1+1≤_; omega,fun st=>?_⟩
 refine EvQ.body (fn:=a131) rfl rfl rfl ?_
 simp +contextual -implicitDefEqProofs only [a1Y,SS,rA,rS,rL,rE,reduceCtorEq]
 refine WC.loopR (fun mm fr st'=>st'=st∧∃ (i:Nat) (v4:AV),i≤s.length∧mm=s.length - i∧fr=[.str s,.str [],.str (34::pre (fun i=>U1 (s.getD i 0)) i),.int .i64 i,v4]) (m:=s.length) ⟨rfl,0,_,Nat.zero_le _,rfl,rfl⟩ ?_
 rintro mm fr st' ⟨rfl,i,v4,hi,rfl,rfl⟩
 have hpi:=hp i hi
 have hwt:=R2 (fun _=>2) s i
 rw [hw] at hwt
 have c1:(pre (fun i=>U1 (s.getD i 0)) i).length+1+1≤2 ^ 62:=by omega
 have c2:(pre (fun i=>U1 (s.getD i 0)) i).length+1+2≤2 ^ 62:=by omega
 simp +contextual -implicitDefEqProofs only [a1Y,SS,rA,rS,rL,rE,reduceCtorEq]
 by_cases hil:i < s.length
 · have e2:s[i]?=some s[i]:=List.getElem?_eq_getElem hil
   have hg:s.getD i 0=s[i]:=by simp [hil]
   have hsl:(s.take (i+1)).drop i=[s[i]]:=by rw [List.take_add_one,e2,List.drop_append,List.drop_of_length_le (by rw [List.length_take]; omega),List.nil_append,List.length_take,show i - min i s.length=0 by omega]; rfl
   have hpr:pre (fun i=>U1 (s.getD i 0)) (i+1)=pre (fun i=>U1 (s.getD i 0)) i++U1 s[i]:=by rw [pre,hg]
   have hb1:(i:Int)≤((i+1:Nat):Int):=by omega
   have hb2:((i+1:Nat):Int)≤(s.length:Int):=by omega
   revert e2 hsl hpr
   generalize s[i]=b
   generalize pre (fun i=>U1 (s.getD i 0)) i=p at *
   intro e2 hsl hpr
   rw [U1] at hpr
   rcases k8 (eqI (b:Int) 10) with h1|h1
   · rw [if_pos h1] at hpr
     simp +contextual -implicitDefEqProofs only [a1Y,SS,rA,rS,rL,rE,reduceCtorEq,hil,e2,h1,c1,c2,l5 (show i+1 < 2 ^ 63 by omega)]
     exact WC.next (m':=s.length - (i+1)) (by omega) ⟨rfl,i+1,_,hil,rfl,by rw [hpr]; try rfl⟩
   rw [if_neg (by rw [h1]; decide)] at hpr
   rcases k8 (eqI (b:Int) 9) with h2|h2
   · rw [if_pos h2] at hpr
     simp +contextual -implicitDefEqProofs only [a1Y,SS,rA,rS,rL,rE,reduceCtorEq,hil,e2,h1,h2,c1,c2,l5 (show i+1 < 2 ^ 63 by omega)]
     exact WC.next (m':=s.length - (i+1)) (by omega) ⟨rfl,i+1,_,hil,rfl,by rw [hpr]; try rfl⟩
   rw [if_neg (by rw [h2]; decide)] at hpr
   rcases k8 (eqI (b:Int) 34) with h3|h3
   · rw [if_pos h3] at hpr
     simp +contextual -implicitDefEqProofs only [a1Y,SS,rA,rS,rL,rE,reduceCtorEq,hil,e2,h1,h2,h3,c1,c2,l5 (show i+1 < 2 ^ 63 by omega)]
     exact WC.next (m':=s.length - (i+1)) (by omega) ⟨rfl,i+1,_,hil,rfl,by rw [hpr]; try rfl⟩
   rw [if_neg (by rw [h3]; decide)] at hpr
   rcases k8 (eqI (b:Int) 92) with h4|h4
   · rw [if_pos h4] at hpr
     simp +contextual -implicitDefEqProofs only [a1Y,SS,rA,rS,rL,rE,reduceCtorEq,hil,e2,h1,h2,h3,h4,c1,c2,l5 (show i+1 < 2 ^ 63 by omega)]
     exact WC.next (m':=s.length - (i+1)) (by omega) ⟨rfl,i+1,_,hil,rfl,by rw [hpr]; try rfl⟩
   · rw [if_neg (by rw [h4]; decide)] at hpr
     simp +contextual -implicitDefEqProofs only [a1Y,SS,rA,rS,rL,rE,reduceCtorEq,hil,e2,h1,h2,h3,h4,c1,c2,l5 (show i+1 < 2 ^ 63 by omega),hb1,hb2,hsl]
     exact WC.next (m':=s.length - (i+1)) (by omega) ⟨rfl,i+1,_,hil,rfl,by rw [hpr]⟩
 · have e:i=s.length:=by omega
   subst e
   have c3:(pre (fun i=>U1 (s.getD i 0)) s.length).length+1+1≤2 ^ 62:=c1
   simp +contextual -implicitDefEqProofs only [a1Y,SS,rA,rS,rL,rE,reduceCtorEq,hil]
   refine WC.leave ?_
   simp +contextual -implicitDefEqProofs only [a1Y,SS,rA,rS,rL,rE,reduceCtorEq,c1]
   exact WC.ret ⟨_,_,rfl,rfl,rfl⟩
end Go.Cb.CodeA
