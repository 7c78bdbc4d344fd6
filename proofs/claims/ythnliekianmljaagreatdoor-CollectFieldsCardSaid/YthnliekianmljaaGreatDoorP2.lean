/- What functions of the abstract machine answer. No conditions but those that each theorem names. -/
import Derived.Test.YthnliekianmljaaGreatDoorP1
set_option maxRecDepth 20000
set_option linter.unusedSimpArgs false
set_option linter.unusedVariables false
namespace Go.Cb.CodeA
open Go Go.Cb
open Nat renaming reduceAdd → rA,reduceSub → rS,reduceLeDiff → rL,reduceEqDiff → rE
attribute [local congr] i8 k4 k6 k7 j4 j3 l8 l7 V.runR_congr

theorem a0x {α:Type} {P:α→List Nat→Prop}:∀ {l:List α},(∀ x∈l,∃ t,P x t)→∃ T:Nat→List Nat,∀ i (h:i < l.length),P l[i] (T i)
 | [],_=>⟨fun _=>[],fun i h=>by simp at h⟩
 | x::l,h=>by
  obtain ⟨t,ht⟩:=h x (by simp)
  obtain ⟨T,hT⟩:=a0x (l:=l) fun y hy=>h y (by simp [hy])
  refine ⟨fun i=>match i with|0=>t|i+1=>T i,fun i hi=>?_⟩
  cases i with
  | zero=>exact ht
  | succ i=>exact hT i (by simpa using hi)
def P5 (i:Nat):List Nat:=if 0 < i then [44,32] else []
theorem b7B (i:Nat):(P5 i).length≤2:=by unfold P5; split <;> decide
def H7 (k:Int) (ks:List (List Nat)) (i:Nat):List Nat:=if eqI k 6 then ks.getD i []++[58,32] else []
theorem c2W (k:Int):∀ (ks:List (List Nat)) (i:Nat),(H7 k ks i).length≤(ks.getD i []).length+2:=fun ks i=>by
 unfold H7
 split
 · simp
 · simp
theorem c2h:∀ (ks:List (List Nat)) (n:Nat),(pre (fun i=>ks.getD i []) n).length≤wS (fun k:List Nat=>k.length+10) ks
 | ks,n=>by
  by_cases hn:n≤ks.length
  · refine Nat.le_trans (O5 (g:=fun i=>ks.getD i []) (μ:=fun k:List Nat=>k.length+10) (l:=ks) (fun i hi=>?_) n hn) (R2 _ _ _)
    simp [hi]
  · have h:∀ m,(pre (fun i=>ks.getD i []) (ks.length+m)).length=(pre (fun i=>ks.getD i []) ks.length).length:=by
     intro m
     induction m with
     | zero=>rfl
     | succ m ih=>rw [← Nat.add_assoc,pre,List.length_append,ih]; simp
    have e:n=ks.length+(n - ks.length):=by omega
    rw [e,h]
    refine Nat.le_trans (O5 (g:=fun i=>ks.getD i []) (μ:=fun k:List Nat=>k.length+10) (l:=ks) (fun i hi=>?_) _ (Nat.le_refl _)) (R2 _ _ _)
    simp [hi]
theorem b14 (a b:Nat→List Nat) (c:Nat) (g:Nat→List Nat) (h:∀ i,(g i).length≤(a i).length+(b i).length+c):∀ n,(pre g n).length≤(pre a n).length+(pre b n).length+c*n
 | 0=>by simp [pre]
 | n+1=>by
  have:=b14 a b c g h n
  have:=h n
  simp only [pre,List.length_append,Nat.mul_succ]
  omega
theorem b8k {v:Val} (h:v.OK):v.w≤2 ^ 50→a1O 122 [.agg v.row] v.w:=by
 induction h with
 | mk k n s ks ls h6 hk hl h ih =>
  intro hw
  rw [Val.w_mk] at hw ⊢
  have hvw:∀ v∈ls,v.w≤2 ^ 50:=fun v hv=>by
   have:=T4 (fun v:Val=>v.w+10) hv
   omega
  obtain ⟨T,hT⟩:=a0x (P:=fun (v:Val) (t:List Nat)=>t.length≤v.w∧∀ st,EvQ tbl 122 [.agg v.row] st (fun a st'=>st'=st∧a=.str t)) (l:=ls) (fun v hv=>ih v hv (hvw v hv))
  have hTl:=O5 (g:=T) (μ:=fun v:Val=>v.w) (l:=ls) (fun i hi=>(hT i hi).1)
  have hg:=b14 (fun i=>ks.getD i []) T 4 (fun i=>P5 i++(H7 k ks i++T i)) (fun i=>by
   have h1:=b7B i
   have h2:=c2W k ks i
   simp only [List.length_append]
   omega)
  have hbound:∀ i,i≤ls.length→(pre (fun i=>P5 i++(H7 k ks i++T i)) i).length≤wS (fun k:List Nat=>k.length+10) ks+wS (fun v=>v.w+10) ls:=by
   intro i hi
   have h1:=hg i
   have h2:=c2h ks i
   have h3:=hTl i hi
   have h4:∀ l:List Val,wS (fun v:Val=>v.w) l+10*l.length=wS (fun v:Val=>v.w+10) l:=by
    intro l
    induction l with
    | nil=>rfl
    | cons x l ih=>simp only [wS,List.length_cons]; omega
   have h5:=R2 (fun v:Val=>v.w) ls i
   have h6:=h4 ls
   omega
  have hnum:=d3Z n
  obtain ⟨tn,ln,gn⟩:=hnum
  obtain ⟨tq,lq,gq⟩:=c2F s (by omega)
  have hfin:=hbound ls.length (Nat.le_refl _)
  generalize hJ:pre (fun i=>P5 i++(H7 k ks i++T i)) ls.length=J at hfin
  refine ⟨if eqI k 1 then tn else (if eqI k 2 || eqI k 8 then tq else (if eqI k 3 then (if eqI n 1 then [116,114,117,101] else [102,97,108,115,101]) else (if eqI k 4 then s else (if eqI k 7 then 36::s else (if eqI k 5 then 91::(J++[93]) else (if eqI k 6 then 123::(J++[125]) else [110,117,108,108])))))),?_,fun st=>?_⟩
  · split
    · omega
    split
    · omega
    split
    · split
      · show 4≤_; omega
      · show 5≤_; omega
    split
    · omega
    split
    · rw [List.length_cons]; omega
    split
    · rw [List.length_cons,List.length_append]; show _+1+1≤_; omega
    split
    · rw [List.length_cons,List.length_append]; show _+1+1≤_; omega
    · show 4≤_; omega
  rw [Val.row_eq]
  refine EvQ.body (fn:=a122) rfl rfl rfl ?_
  simp +contextual -implicitDefEqProofs only [E4,SS,rA,rS,rL,rE,reduceCtorEq]
  refine WC.loopR (fun mm fr st'=>st'=st∧∃ (i:Nat),i≤ls.length∧mm=ls.length - i∧fr=[.agg [.int .u8 k,.int .i64 n,.str s,.list false (ks.map b9),.list false (ls.map Val.row)],.box [.int .u8 k,.int .i64 n,.str s,.list false (ks.map b9),.list false (ls.map Val.row)],.str [],.str (pre (fun i=>P5 i++(H7 k ks i++T i)) i),.int .i64 i,.undef,.undef]) (m:=ls.length) ⟨rfl,0,Nat.zero_le _,rfl,rfl⟩ ?_
  rintro mm fr st' ⟨rfl,i,hi,rfl,rfl⟩
  simp +contextual -implicitDefEqProofs only [E4,SS,rA,rS,rL,rE,reduceCtorEq,List.length_map]
  by_cases hil:i < ls.length
  · have e2:(ls.map Val.row)[i]?=some (ls[i]).row:=by rw [List.getElem?_map,List.getElem?_eq_getElem hil]; rfl
    have hTi:=hT i hil
    have hbi:=hbound (i+1) hil
    have hpr:pre (fun i=>P5 i++(H7 k ks i++T i)) (i+1)=pre (fun i=>P5 i++(H7 k ks i++T i)) i++(P5 i++(H7 k ks i++T i)):=rfl
    rw [hpr,List.length_append,List.length_append,List.length_append] at hbi
    have i1:=l5 (show i+1 < 2 ^ 63 by omega)
    have e3:=hTi.2
    revert e2 hTi e3
    generalize ls[i]=u
    intro e2 hTi e3
    obtain ⟨uk,un,us,uks,uls⟩:=u
    rw [Val.row_eq] at e2
    have e3:∀ st,EvQ tbl 122 [.agg [.int .u8 uk,.int .i64 un,.str us,.list false (uks.map b9),.list false (uls.map Val.row)]] st (fun a st'=>st'=st∧a=.str (T i)):=fun st=>by have:=hTi.2 st; rwa [Val.row_eq] at this
    generalize hP:pre (fun i=>P5 i++(H7 k ks i++T i)) i=p at hpr hbi ⊢
    generalize hTT:T i=tt at *
    have hs0:(0 < i∧ltI 0 (i:Int)=true∧P5 i=[44,32])∨(ltI 0 (i:Int)=false∧P5 i=[]):=by
     by_cases h0:0 < i
     · exact Or.inl ⟨h0,by rw [ltI_eq]; simp; omega,by rw [P5,if_pos h0]⟩
     · exact Or.inr ⟨by rw [ltI_eq]; simp; omega,by rw [P5,if_neg h0]⟩
    have hn0:(eqI k 6=true∧i < ks.length∧H7 k ks i=ks.getD i []++[58,32])∨(eqI k 6=false∧H7 k ks i=[]):=by
     rcases k8 (eqI k 6) with hk6|hk6
     · refine Or.inl ⟨hk6,?_,by rw [H7,if_pos hk6]⟩
       rw [h6 (by rw [eqI_eq] at hk6; simpa using hk6)]
       exact hil
     · exact Or.inr ⟨hk6,by rw [H7,if_neg (by rw [hk6]; decide)]⟩
    have fin:∀ {q:List Nat} {v5 v6:AV},q++tt=p++(P5 i++(H7 k ks i++tt))→q++tt=pre (fun i=>P5 i++(H7 k ks i++T i)) (i+1):=fun h=>by rw [hpr,h]
    rcases hs0 with ⟨_,h0,hse⟩|⟨h0,hse⟩ <;> rcases hn0 with ⟨h6k,hik,hne⟩|⟨h6k,hne⟩
    · rw [hse,hne] at hbi fin
      have ek:(ks.map b9)[i]?=some [.str (ks.getD i [])]:=by rw [List.getElem?_map,List.getElem?_eq_getElem hik]; simp [b9,hik]
      generalize ks.getD i []=kn at ek hbi fin
      simp only [List.length_append,List.length_cons,List.length_nil] at hbi
      have c1:p.length+2≤2 ^ 62:=by omega
      have c2:kn.length+2≤2 ^ 62:=by omega
      have c3:(p++[44,32]).length+(kn++[58,32]).length≤2 ^ 62:=by simp; omega
      have c4:((p++[44,32])++(kn++[58,32])).length+tt.length≤2 ^ 62:=by simp; omega
      simp +contextual -implicitDefEqProofs only [E4,SS,rA,rS,rL,rE,reduceCtorEq,hil,e2,h0,h6k,c1,ek,c2,c3]
      refine WC.call (e3 _) rfl rfl ?_
      rintro _ st2 ⟨rfl,rfl⟩
      simp +contextual -implicitDefEqProofs only [E4,SS,rA,rS,rL,rE,reduceCtorEq,c4,i1]
      exact WC.next (m':=ls.length - (i+1)) (by omega) ⟨rfl,i+1,hil,rfl,by rw [← fin (v5:=.undef) (v6:=.undef) (q:=((p++[44,32])++(kn++[58,32]))) (by simp)]⟩
    · rw [hse,hne] at hbi fin
      simp only [List.length_append,List.length_cons,List.length_nil] at hbi
      have c1:p.length+2≤2 ^ 62:=by omega
      have c4:(p++[44,32]).length+tt.length≤2 ^ 62:=by simp; omega
      simp +contextual -implicitDefEqProofs only [E4,SS,rA,rS,rL,rE,reduceCtorEq,hil,e2,h0,h6k,c1]
      refine WC.call (e3 _) rfl rfl ?_
      rintro _ st2 ⟨rfl,rfl⟩
      simp +contextual -implicitDefEqProofs only [E4,SS,rA,rS,rL,rE,reduceCtorEq,c4,i1]
      exact WC.next (m':=ls.length - (i+1)) (by omega) ⟨rfl,i+1,hil,rfl,by rw [← fin (v5:=.undef) (v6:=.undef) (q:=(p++[44,32])) (by simp)]⟩
    · rw [hse,hne] at hbi fin
      have ek:(ks.map b9)[i]?=some [.str (ks.getD i [])]:=by rw [List.getElem?_map,List.getElem?_eq_getElem hik]; simp [b9,hik]
      generalize ks.getD i []=kn at ek hbi fin
      simp only [List.length_append,List.length_cons,List.length_nil] at hbi
      have c1:p.length+2≤2 ^ 62:=by omega
      have c2:kn.length+2≤2 ^ 62:=by omega
      have c3:(p).length+(kn++[58,32]).length≤2 ^ 62:=by simp; omega
      have c4:(p++(kn++[58,32])).length+tt.length≤2 ^ 62:=by simp; omega
      simp +contextual -implicitDefEqProofs only [E4,SS,rA,rS,rL,rE,reduceCtorEq,hil,e2,h0,h6k,c1,ek,c2,c3]
      refine WC.call (e3 _) rfl rfl ?_
      rintro _ st2 ⟨rfl,rfl⟩
      simp +contextual -implicitDefEqProofs only [E4,SS,rA,rS,rL,rE,reduceCtorEq,c4,i1]
      exact WC.next (m':=ls.length - (i+1)) (by omega) ⟨rfl,i+1,hil,rfl,by rw [← fin (v5:=.undef) (v6:=.undef) (q:=(p++(kn++[58,32]))) (by simp)]⟩
    · rw [hse,hne] at hbi fin
      simp only [List.length_append,List.length_cons,List.length_nil] at hbi
      have c1:p.length+2≤2 ^ 62:=by omega
      have c4:p.length+tt.length≤2 ^ 62:=by simp; omega
      simp +contextual -implicitDefEqProofs only [E4,SS,rA,rS,rL,rE,reduceCtorEq,hil,e2,h0,h6k,c1]
      refine WC.call (e3 _) rfl rfl ?_
      rintro _ st2 ⟨rfl,rfl⟩
      simp +contextual -implicitDefEqProofs only [E4,SS,rA,rS,rL,rE,reduceCtorEq,c4,i1]
      exact WC.next (m':=ls.length - (i+1)) (by omega) ⟨rfl,i+1,hil,rfl,by rw [← fin (v5:=.undef) (v6:=.undef) (q:=p) (by simp)]⟩
  · have e:i=ls.length:=by omega
    subst e
    have c1:1+J.length≤2 ^ 62:=by omega
    have c2:J.length+1+1≤2 ^ 62:=by omega
    rw [hJ]
    simp +contextual -implicitDefEqProofs only [E4,SS,rA,rS,rL,rE,reduceCtorEq,hil]
    refine WC.leave ?_
    rcases k8 (eqI k 1) with g1|g1
    · rw [if_pos g1]
      simp +contextual -implicitDefEqProofs only [E4,SS,rA,rS,rL,rE,reduceCtorEq,g1]
      refine WC.call (gn _) rfl rfl ?_
      rintro _ st2 ⟨rfl,rfl⟩
      simp +contextual -implicitDefEqProofs only [E4,SS,rA,rS,rL,rE,reduceCtorEq]
      exact WC.ret ⟨_,_,rfl,rfl,rfl⟩
    rw [if_neg (by rw [g1]; decide)]
    rcases k8 (eqI k 2) with g2|g2
    · rw [if_pos (by rw [g2]; rfl)]
      simp +contextual -implicitDefEqProofs only [E4,SS,rA,rS,rL,rE,reduceCtorEq,g1,g2]
      refine WC.call (gq _) rfl rfl ?_
      rintro _ st2 ⟨rfl,rfl⟩
      simp +contextual -implicitDefEqProofs only [E4,SS,rA,rS,rL,rE,reduceCtorEq]
      exact WC.ret ⟨_,_,rfl,rfl,rfl⟩
    rcases k8 (eqI k 8) with g8|g8
    · rw [if_pos (by rw [g8,Bool.or_true])]
      simp +contextual -implicitDefEqProofs only [E4,SS,rA,rS,rL,rE,reduceCtorEq,g1,g2,g8]
      refine WC.call (gq _) rfl rfl ?_
      rintro _ st2 ⟨rfl,rfl⟩
      simp +contextual -implicitDefEqProofs only [E4,SS,rA,rS,rL,rE,reduceCtorEq]
      exact WC.ret ⟨_,_,rfl,rfl,rfl⟩
    rw [if_neg (by rw [g2,g8]; decide)]
    rcases k8 (eqI k 3) with g3|g3
    · rw [if_pos g3]
      rcases k8 (eqI n 1) with n1|n1
      · rw [if_pos n1]
        simp +contextual -implicitDefEqProofs only [E4,SS,rA,rS,rL,rE,reduceCtorEq,g1,g2,g8,g3,n1]
        exact WC.ret ⟨_,_,rfl,rfl,rfl⟩
      · rw [if_neg (by rw [n1]; decide)]
        simp +contextual -implicitDefEqProofs only [E4,SS,rA,rS,rL,rE,reduceCtorEq,g1,g2,g8,g3,n1]
        exact WC.ret ⟨_,_,rfl,rfl,rfl⟩
    rw [if_neg (by rw [g3]; decide)]
    rcases k8 (eqI k 4) with g4|g4
    · rw [if_pos g4]
      simp +contextual -implicitDefEqProofs only [E4,SS,rA,rS,rL,rE,reduceCtorEq,g1,g2,g8,g3,g4]
      exact WC.ret ⟨_,_,rfl,rfl,rfl⟩
    rw [if_neg (by rw [g4]; decide)]
    rcases k8 (eqI k 7) with g7|g7
    · rw [if_pos g7]
      have c3:1+s.length≤2 ^ 62:=by omega
      simp +contextual -implicitDefEqProofs only [E4,SS,rA,rS,rL,rE,reduceCtorEq,g1,g2,g8,g3,g4,g7,c3]
      exact WC.ret ⟨_,_,rfl,rfl,rfl⟩
    rw [if_neg (by rw [g7]; decide)]
    rcases k8 (eqI k 5) with g5|g5
    · rw [if_pos g5]
      simp +contextual -implicitDefEqProofs only [E4,SS,rA,rS,rL,rE,reduceCtorEq,g1,g2,g8,g3,g4,g7,g5,c1,c2]
      exact WC.ret ⟨_,_,rfl,rfl,rfl⟩
    rw [if_neg (by rw [g5]; decide)]
    rcases k8 (eqI k 6) with g6|g6
    · rw [if_pos g6]
      simp +contextual -implicitDefEqProofs only [E4,SS,rA,rS,rL,rE,reduceCtorEq,g1,g2,g8,g3,g4,g7,g5,g6,c1,c2]
      exact WC.ret ⟨_,_,rfl,rfl,rfl⟩
    · rw [if_neg (by rw [g6]; decide)]
      simp +contextual -implicitDefEqProofs only [E4,SS,rA,rS,rL,rE,reduceCtorEq,g1,g2,g8,g3,g4,g7,g5,g6]
      exact WC.ret ⟨_,_,rfl,rfl,rfl⟩
end Go.Cb.CodeA
