/- What functions of the abstract machine answer. No conditions but those that each theorem names. -/
import Derived.Test.YthnliekianmljaaGreatDoorP2
set_option maxRecDepth 20000
set_option linter.unusedSimpArgs false
set_option linter.unusedVariables false
namespace Go.Cb.CodeA
open Go Go.Cb
open Nat renaming reduceAdd → rA,reduceSub → rS,reduceLeDiff → rL,reduceEqDiff → rE
attribute [local congr] i8 k4 k6 k7 j4 j3 l8 l7 V.runR_congr

theorem b32 (n:Nat):ltI 0 (n:Int)=decide (0 < n):=by
 rw [ltI_eq]
 by_cases h:0 < n
 · rw [decide_eq_true h,decide_eq_true (by omega)]
 · rw [decide_eq_false h,decide_eq_false (by omega)]
theorem eq0 (n:Nat):eqI (n:Int) 0=decide (n=0):=by
 rw [eqI_eq]
 by_cases h:n=0
 · subst h; rfl
 · rw [decide_eq_false h]; simp; omega
def K0 (i:Nat):List Nat:=if i=0 then [40] else [44,32]
theorem b5P (i:Nat):(K0 i).length≤2:=by unfold K0; split <;> decide
theorem b2M (as:List Arg) (h:ArgsOK as) (hw:wS Arg.w as≤2 ^ 50):a1O 99 [.list false (as.map Arg.row)] (wS Arg.w as):=by
 have hlen:=h.1
 have hvw:∀ a∈as,a.v.w≤2 ^ 50:=fun a ha=>by
  have:=T4 Arg.w ha
  unfold Arg.w at this
  have e:wS (fun a:Arg=>14+a.n.length+a.v.w) as=wS Arg.w as:=rfl
  omega
 obtain ⟨T,hT⟩:=a0x (P:=fun (a:Arg) (t:List Nat)=>t.length≤a.v.w∧∀ st,EvQ tbl 122 [.agg a.v.row] st (fun a st'=>st'=st∧a=.str t)) (l:=as) (fun a ha=>b8k (h.2 a ha) (hvw a ha))
 have hbound:=O5 (g:=fun i=>K0 i++((as.map Arg.n).getD i []++[58,32]++T i)) (μ:=fun a:Arg=>a.n.length+a.v.w+4) (l:=as) (fun i hi=>by
  have h1:=b5P i
  have h2:=(hT i hi).1
  have h3:(as.map Arg.n).getD i []=(as[i]).n:=by simp [hi]
  rw [h3]
  simp only [List.length_append,List.length_cons,List.length_nil]
  omega)
 have h4:∀ l:List Arg,wS (fun a:Arg=>a.n.length+a.v.w+4) l+10*l.length=wS Arg.w l:=by
  intro l
  induction l with
  | nil=>rfl
  | cons x l ih=>simp only [wS,List.length_cons,Arg.w] at ih ⊢; omega
 have h5:=h4 as
 have hb2:∀ i,i≤as.length→(pre (fun i=>K0 i++((as.map Arg.n).getD i []++[58,32]++T i)) i).length≤wS (fun a:Arg=>a.n.length+a.v.w+4) as:=fun i hi=>Nat.le_trans (hbound i hi) (R2 _ _ _)
 refine ⟨pre (fun i=>K0 i++((as.map Arg.n).getD i []++[58,32]++T i)) as.length++(if 0 < as.length then [41] else []),?_,fun st=>?_⟩
 · have:=hb2 as.length (Nat.le_refl _)
   rw [List.length_append]
   split
   · simp only [List.length_cons,List.length_nil]; omega
   · simp only [List.length_nil]; omega
 refine EvQ.body (fn:=a99) rfl rfl rfl ?_
 simp +contextual -implicitDefEqProofs only [K99,SS,rA,rS,rL,rE,reduceCtorEq]
 refine WC.loopR (fun mm fr st'=>st'=st∧∃ (i:Nat),i≤as.length∧mm=as.length - i∧fr=[.list false (as.map Arg.row),.str [],.str (pre (fun i=>K0 i++((as.map Arg.n).getD i []++[58,32]++T i)) i),.int .i64 i]) (m:=as.length) ⟨rfl,0,Nat.zero_le _,rfl,rfl⟩ ?_
 rintro mm fr st' ⟨rfl,i,hi,rfl,rfl⟩
 simp +contextual -implicitDefEqProofs only [K99,SS,rA,rS,rL,rE,reduceCtorEq,List.length_map]
 by_cases hil:i < as.length
 · have e2:(as.map Arg.row)[i]?=some (as[i]).row:=by rw [List.getElem?_map,List.getElem?_eq_getElem hil]; rfl
   have hTi:=hT i hil
   have hbi:=hb2 (i+1) hil
   have h3:(as.map Arg.n).getD i []=(as[i]).n:=by simp [hil]
   have hpr:pre (fun i=>K0 i++((as.map Arg.n).getD i []++[58,32]++T i)) (i+1)=pre (fun i=>K0 i++((as.map Arg.n).getD i []++[58,32]++T i)) i++(K0 i++((as.map Arg.n).getD i []++[58,32]++T i)):=rfl
   have i1:=l5 (show i+1 < 2 ^ 63 by omega)
   rw [h3] at hpr
   rw [hpr] at hbi
   revert e2 hTi hpr hbi h3
   generalize as[i]=x
   intro e2 hTi hbi h3 hpr
   clear h3
   obtain ⟨an,av⟩:=x
   obtain ⟨uk,un,us,uks,uls⟩:=av
   have e2:(as.map Arg.row)[i]?=some (.str an::(Val.mk uk un us uks uls).row):=e2
   rw [Val.row_eq] at e2
   have e3:∀ st,EvQ tbl 122 [.agg [.int .u8 uk,.int .i64 un,.str us,.list false (uks.map b9),.list false (uls.map Val.row)]] st (fun a st'=>st'=st∧a=.str (T i)):=fun st=>by have:=hTi.2 st; rwa [Val.row_eq] at this
   dsimp only at hbi hpr
   generalize pre (fun i=>K0 i++((as.map Arg.n).getD i []++[58,32]++T i)) i=p at hpr hbi ⊢
   generalize hTT:T i=tt at *
   simp only [List.length_append,List.length_cons,List.length_nil] at hbi
   have c1:p.length+2≤2 ^ 62:=by omega
   have c1':p.length+1≤2 ^ 62:=by omega
   have c2:an.length+2≤2 ^ 62:=by omega
   have c3:(an++[58,32]).length+tt.length≤2 ^ 62:=by simp; omega
   have c4:(p++[40]).length+(an++[58,32]++tt).length≤2 ^ 62:=by simp; omega
   have c5:(p++[44,32]).length+(an++[58,32]++tt).length≤2 ^ 62:=by simp; omega
   by_cases h0:i=0
   · have ho:K0 i=[40]:=by rw [K0,if_pos h0]
     rw [ho] at hpr
     subst h0
     simp +contextual -implicitDefEqProofs only [K99,SS,rA,rS,rL,rE,reduceCtorEq,hil,e2,eq0,c1',c2]
     refine WC.call (e3 _) rfl rfl ?_
     rintro _ st2 ⟨rfl,rfl⟩
     simp +contextual -implicitDefEqProofs only [K99,SS,rA,rS,rL,rE,reduceCtorEq,c3,c4,i1]
     exact WC.next (m':=as.length - (0+1)) (by omega) ⟨rfl,0+1,hil,rfl,by rw [hpr]; simp⟩
   · have ho:K0 i=[44,32]:=by rw [K0,if_neg h0]
     rw [ho] at hpr
     simp +contextual -implicitDefEqProofs only [K99,SS,rA,rS,rL,rE,reduceCtorEq,hil,e2,eq0,h0,c1,c2]
     refine WC.call (e3 _) rfl rfl ?_
     rintro _ st2 ⟨rfl,rfl⟩
     simp +contextual -implicitDefEqProofs only [K99,SS,rA,rS,rL,rE,reduceCtorEq,c3,c5,i1]
     exact WC.next (m':=as.length - (i+1)) (by omega) ⟨rfl,i+1,hil,rfl,by rw [hpr]; simp⟩
 · have e:i=as.length:=by omega
   subst e
   have hb3:=hb2 as.length (Nat.le_refl _)
   generalize pre (fun i=>K0 i++((as.map Arg.n).getD i []++[58,32]++T i)) as.length=p at hb3 ⊢
   have c1:p.length+1≤2 ^ 62:=by omega
   simp +contextual -implicitDefEqProofs only [K99,SS,rA,rS,rL,rE,reduceCtorEq,hil]
   refine WC.leave ?_
   by_cases h0:0 < as.length
   · rw [if_pos h0]
     simp +contextual -implicitDefEqProofs only [K99,SS,rA,rS,rL,rE,reduceCtorEq,List.length_map,b32,h0,c1]
     exact WC.ret ⟨_,_,rfl,rfl,rfl⟩
   · rw [if_neg h0,List.append_nil]
     simp +contextual -implicitDefEqProofs only [K99,SS,rA,rS,rL,rE,reduceCtorEq,List.length_map,b32,h0]
     exact WC.ret ⟨_,_,rfl,rfl,rfl⟩
end Go.Cb.CodeA
