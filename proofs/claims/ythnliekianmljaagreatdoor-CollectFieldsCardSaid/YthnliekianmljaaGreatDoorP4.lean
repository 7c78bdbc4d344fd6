/- What functions of the abstract machine answer. No conditions but those that each theorem names. -/
import Derived.Test.YthnliekianmljaaGreatDoorP3
set_option maxRecDepth 20000
set_option linter.unusedSimpArgs false
set_option linter.unusedVariables false
namespace Go.Cb.CodeA
open Go Go.Cb
open Nat renaming reduceAdd → rA,reduceSub → rS,reduceLeDiff → rL,reduceEqDiff → rE
attribute [local congr] i8 k4 k6 k7 j4 j3 l8 l7 V.runR_congr

theorem c7P (l:List Sel) (T:Nat→List Nat) (hT:∀ i (h:i < l.length),(T i).length≤(l[i]).w∧∀ st,EvQ tbl 61 [.agg (l[i]).row] st (fun a st'=>st'=st∧a=.str (T i))) (hl:l.length≤3000) (hw:wS (fun x=>x.w+2) l≤2 ^ 50) (st:St) :
 EvQ tbl 100 [.list false (l.map Sel.row)] st (fun a st'=>st'=st∧a=.str (32::123::(pre (fun i=>32::T i) l.length++[32,125]))):=by
 have hb:=fun i hi=>Nat.le_trans (O5 (g:=fun i=>32::T i) (μ:=fun x:Sel=>x.w+2) (l:=l) (fun i hi=>by have:=(hT i hi).1; simp; omega) i hi) (R2 _ _ _)
 refine EvQ.body (fn:=a100) rfl rfl rfl ?_
 simp +contextual -implicitDefEqProofs only [a7b,SS,rA,rS,rL,rE,reduceCtorEq]
 refine WC.loopR (fun mm fr st'=>st'=st∧∃ (i:Nat),i≤l.length∧mm=l.length - i∧fr=[.list false (l.map Sel.row),.str [],.str (32::123::pre (fun i=>32::T i) i),.int .i64 i]) (m:=l.length) ⟨rfl,0,Nat.zero_le _,rfl,rfl⟩ ?_
 rintro mm fr st' ⟨rfl,i,hi,rfl,rfl⟩
 simp +contextual -implicitDefEqProofs only [a7b,SS,rA,rS,rL,rE,reduceCtorEq,List.length_map]
 by_cases hil:i < l.length
 · have e2:(l.map Sel.row)[i]?=some (l[i]).row:=by rw [List.getElem?_map,List.getElem?_eq_getElem hil]; rfl
   have hTi:=(hT i hil).2
   have hTl:=(hT i hil).1
   have hbi:=hb (i+1) hil
   have i1:=l5 (show i+1 < 2 ^ 63 by omega)
   have hpr:pre (fun i=>32::T i) (i+1)=pre (fun i=>32::T i) i++(32::T i):=rfl
   rw [hpr,List.length_append,List.length_cons] at hbi
   revert e2 hTi hTl
   generalize l[i]=x
   intro e2 hTi hTl
   obtain ⟨k,al,nm,on,as,ds,sub⟩:=x
   simp only [Sel.row_eq] at e2 hTi
   generalize pre (fun i=>32::T i) i=p at hpr hbi ⊢
   generalize hTT:T i=tt at *
   have c1:1+tt.length≤2 ^ 62:=by omega
   have c2:p.length+1+1+(tt.length+1)≤2 ^ 62:=by omega
   simp +contextual -implicitDefEqProofs only [a7b,SS,rA,rS,rL,rE,reduceCtorEq,hil,e2]
   refine WC.call (hTi _) rfl rfl ?_
   rintro _ st2 ⟨rfl,rfl⟩
   simp +contextual -implicitDefEqProofs only [a7b,SS,rA,rS,rL,rE,reduceCtorEq,c1,c2,i1]
   exact WC.next (m':=l.length - (i+1)) (by omega) ⟨rfl,i+1,hil,rfl,by rw [hpr]⟩
 · have e:i=l.length:=by omega
   subst e
   have hbi:=hb l.length (Nat.le_refl _)
   generalize pre (fun i=>32::T i) l.length=p at hbi ⊢
   have c1:p.length+1+1+2≤2 ^ 62:=by omega
   simp +contextual -implicitDefEqProofs only [a7b,SS,rA,rS,rL,rE,reduceCtorEq,hil]
   refine WC.leave ?_
   simp +contextual -implicitDefEqProofs only [a7b,SS,rA,rS,rL,rE,reduceCtorEq,c1]
   exact WC.ret ⟨_,_,rfl,rfl,rfl⟩
theorem d0D {x:Sel} (h:x.OK):x.w≤2 ^ 50→a1O 61 [.agg x.row] x.w:=by
 induction h with
 | mk k al nm on as ds sub ha hd hl h ih =>
  intro hw
  rw [Sel.w_mk] at hw ⊢
  have hvw:∀ x∈sub,x.w≤2 ^ 50:=fun x hx=>by
   have:=T4 (fun x:Sel=>x.w+2) hx
   omega
  obtain ⟨T,hT⟩:=a0x (P:=fun (x:Sel) (t:List Nat)=>t.length≤x.w∧∀ st,EvQ tbl 61 [.agg x.row] st (fun a st'=>st'=st∧a=.str t)) (l:=sub) (fun x hx=>ih x hx (hvw x hx))
  have hset:=c7P sub T hT hl (by omega)
  have hsl:=Nat.le_trans (O5 (g:=fun i=>32::T i) (μ:=fun x:Sel=>x.w+2) (l:=sub) (fun i hi=>by have:=(hT i hi).1; simp; omega) sub.length (Nat.le_refl _)) (R2 _ _ _)
  obtain ⟨ta,la,ga⟩:=b2M as ha (by omega)
  have hdw:∀ d∈ds,wS Arg.w d.as≤2 ^ 50:=fun d hd=>by
   have:=T4 Dir.w hd
   have e:d.w=10+d.n.length+wS Arg.w d.as:=rfl
   omega
  obtain ⟨D,hD⟩:=a0x (P:=fun (d:Dir) (t:List Nat)=>t.length≤wS Arg.w d.as∧∀ st,EvQ tbl 99 [.list false (d.as.map Arg.row)] st (fun a st'=>st'=st∧a=.str t)) (l:=ds) (fun d hdm=>b2M d.as (hd.2 d hdm) (hdw d hdm))
  have hdb:=fun i hi=>Nat.le_trans (O5 (g:=fun i=>32::64::((ds.map Dir.n).getD i []++D i)) (μ:=Dir.w) (l:=ds) (fun i hi=>by
   have h1:=(hD i hi).1
   have h3:(ds.map Dir.n).getD i []=(ds[i]).n:=by simp [hi]
   rw [h3]
   simp only [List.length_append,List.length_cons,Dir.w]
   omega) i hi) (R2 _ _ _)
  have hdl:=hd.1
  generalize hS:32::123::(pre (fun i=>32::T i) sub.length++[32,125])=S at hset
  have hSl:S.length≤wS (fun x=>x.w+2) sub+4:=by rw [← hS]; simp only [List.length_cons,List.length_append,List.length_nil]; omega
  generalize wS (fun x:Sel=>x.w+2) sub=ws at hw hSl ⊢
  have tail:∀ (H:List Nat) (st:St),H.length≤al.length+nm.length+on.length+wS Arg.w as+9 →
   WC (fun n=>d8 (e8 tbl n) n a61s50 [.agg [.int .u8 k,.str al,.str nm,.str on,.list false (as.map Arg.row),.list false (ds.map Dir.row),.list false (sub.map Sel.row)],.box [.int .u8 k,.str al,.str nm,.str on,.list false (as.map Arg.row),.list false (ds.map Dir.row),.list false (sub.map Sel.row)],.str [],.str H,.undef,.int .u8 k] st) (fun o=>∃ r st',finK [ResK.v 2] (some o)=some (r,st')∧st'=st∧r=.str (H++pre (fun i=>32::64::((ds.map Dir.n).getD i []++D i)) ds.length++(if 0 < sub.length then S else []))):=by
   intro H st hH
   simp +contextual -implicitDefEqProofs only [K61,SS,rA,rS,rL,rE,reduceCtorEq]
   refine WC.loopR (fun mm fr st'=>st'=st∧∃ (i:Nat),i≤ds.length∧mm=ds.length - i∧fr=[.agg [.int .u8 k,.str al,.str nm,.str on,.list false (as.map Arg.row),.list false (ds.map Dir.row),.list false (sub.map Sel.row)],.box [.int .u8 k,.str al,.str nm,.str on,.list false (as.map Arg.row),.list false (ds.map Dir.row),.list false (sub.map Sel.row)],.str [],.str (H++pre (fun i=>32::64::((ds.map Dir.n).getD i []++D i)) i),.int .i64 i,.int .u8 k]) (m:=ds.length) ⟨rfl,0,Nat.zero_le _,rfl,by simp [pre]⟩ ?_
   rintro mm fr st' ⟨rfl,i,hi,rfl,rfl⟩
   simp +contextual -implicitDefEqProofs only [K61,SS,rA,rS,rL,rE,reduceCtorEq,List.length_map]
   by_cases hil:i < ds.length
   · have e2:(ds.map Dir.row)[i]?=some (ds[i]).row:=by rw [List.getElem?_map,List.getElem?_eq_getElem hil]; rfl
     have h3:(ds.map Dir.n).getD i []=(ds[i]).n:=by simp [hil]
     have hDi:=(hD i hil).2
     have hbi:=hdb (i+1) hil
     have i1:=l5 (show i+1 < 2 ^ 63 by omega)
     have hpr:pre (fun i=>32::64::((ds.map Dir.n).getD i []++D i)) (i+1)=pre (fun i=>32::64::((ds.map Dir.n).getD i []++D i)) i++(32::64::((ds.map Dir.n).getD i []++D i)):=rfl
     rw [h3] at hpr
     rw [hpr,List.length_append,List.length_cons,List.length_cons,List.length_append] at hbi
     clear h3
     revert e2 hDi hpr hbi
     generalize ds[i]=x
     intro e2 hDi hbi hpr
     obtain ⟨dn,das⟩:=x
     have e2:(ds.map Dir.row)[i]?=some [.str dn,.list false (das.map Arg.row)]:=e2
     dsimp only at hpr hbi hDi
     generalize pre (fun i=>32::64::((ds.map Dir.n).getD i []++D i)) i=p at hpr hbi ⊢
     generalize hTT:D i=tt at *
     have c1:2+dn.length≤2 ^ 62:=by omega
     have c2:dn.length+1+1+tt.length≤2 ^ 62:=by omega
     have c3:(H++p).length+((dn++tt).length+1+1)≤2 ^ 62:=by simp only [List.length_append]; omega
     simp +contextual -implicitDefEqProofs only [K61,SS,rA,rS,rL,rE,reduceCtorEq,hil,e2,c1]
     refine WC.call (hDi _) rfl rfl ?_
     rintro _ st2 ⟨rfl,rfl⟩
     simp +contextual -implicitDefEqProofs only [K61,SS,rA,rS,rL,rE,reduceCtorEq,c2,c3,i1]
     exact WC.next (m':=ds.length - (i+1)) (by omega) ⟨rfl,i+1,hil,rfl,by rw [hpr]; simp⟩
   · have e:i=ds.length:=by omega
     subst e
     have hbi:=hdb ds.length (Nat.le_refl _)
     generalize pre (fun i=>32::64::((ds.map Dir.n).getD i []++D i)) ds.length=p at hbi ⊢
     have c1:(H++p).length+S.length≤2 ^ 62:=by simp only [List.length_append]; omega
     simp +contextual -implicitDefEqProofs only [K61,SS,rA,rS,rL,rE,reduceCtorEq,hil]
     refine WC.leave ?_
     by_cases h0:0 < sub.length
     · rw [if_pos h0]
       simp +contextual -implicitDefEqProofs only [K61,SS,rA,rS,rL,rE,reduceCtorEq,List.length_map,b32,h0]
       refine WC.call (hset _) rfl rfl ?_
       rintro _ st2 ⟨rfl,rfl⟩
       simp +contextual -implicitDefEqProofs only [K61,SS,rA,rS,rL,rE,reduceCtorEq,c1]
       exact WC.ret ⟨_,_,rfl,rfl,rfl⟩
     · rw [if_neg h0,List.append_nil]
       simp +contextual -implicitDefEqProofs only [K61,SS,rA,rS,rL,rE,reduceCtorEq,List.length_map,b32,h0]
       exact WC.ret ⟨_,_,rfl,rfl,rfl⟩
  have hbi:=hdb ds.length (Nat.le_refl _)
  refine ⟨(if eqI k 1 then (if eqN al [] then [] else al++[58,32])++(nm++ta) else (if eqI k 2 then 46::46::46::nm else (if eqN on [] then [46,46,46] else 46::46::46::32::111::110::32::on)))++pre (fun i=>32::64::((ds.map Dir.n).getD i []++D i)) ds.length++(if 0 < sub.length then S else []),?_,fun st=>?_⟩
  · have h1:(if eqI k 1 then (if eqN al [] then [] else al++[58,32])++(nm++ta) else (if eqI k 2 then 46::46::46::nm else (if eqN on [] then [46,46,46] else 46::46::46::32::111::110::32::on))).length≤al.length+nm.length+on.length+wS Arg.w as+9:=by
     split
     · split
       · simp only [List.length_append,List.length_nil]; omega
       · simp only [List.length_append,List.length_cons,List.length_nil]; omega
     split
     · simp only [List.length_cons]; omega
     split
     · simp only [List.length_cons,List.length_nil]; omega
     · simp only [List.length_cons]; omega
    have h2:(if 0 < sub.length then S else []).length≤S.length:=by split; exact Nat.le_refl _; exact Nat.zero_le _
    rw [List.length_append,List.length_append]
    omega
  rw [Sel.row_eq]
  refine EvQ.body (fn:=a61) rfl rfl rfl ?_
  rcases k8 (eqI k 1) with k1|k1
  · rw [if_pos k1]
    have c1:nm.length+ta.length≤2 ^ 62:=by omega
    rcases k8 (eqN al []) with ea|ea
    · rw [if_pos ea,List.nil_append]
      have c2:(nm++ta).length≤2 ^ 62:=by simp only [List.length_append]; omega
      simp +contextual -implicitDefEqProofs only [a2A,SS,rA,rS,rL,rE,reduceCtorEq,k1,ea]
      refine WC.call (ga _) rfl rfl ?_
      rintro _ st2 ⟨rfl,rfl⟩
      simp +contextual -implicitDefEqProofs only [a2A,SS,rA,rS,rL,rE,reduceCtorEq,c1,c2]
      exact tail (nm++ta) _ (by simp only [List.length_append]; omega)
    · rw [if_neg (by rw [ea]; decide)]
      have c0:al.length+2≤2 ^ 62:=by omega
      have c2:(al++[58,32]).length+(nm++ta).length≤2 ^ 62:=by simp only [List.length_append,List.length_cons,List.length_nil]; omega
      simp +contextual -implicitDefEqProofs only [a2A,SS,rA,rS,rL,rE,reduceCtorEq,k1,ea,c0]
      refine WC.call (ga _) rfl rfl ?_
      rintro _ st2 ⟨rfl,rfl⟩
      simp +contextual -implicitDefEqProofs only [a2A,SS,rA,rS,rL,rE,reduceCtorEq,c1,c2]
      exact tail (al++[58,32]++(nm++ta)) _ (by simp only [List.length_append,List.length_cons,List.length_nil]; omega)
  rw [if_neg (by rw [k1]; decide)]
  rcases k8 (eqI k 2) with k2|k2
  · rw [if_pos k2]
    have c1:3+nm.length≤2 ^ 62:=by omega
    simp +contextual -implicitDefEqProofs only [a2A,SS,rA,rS,rL,rE,reduceCtorEq,k1,k2,c1]
    exact tail (46::46::46::nm) _ (by simp only [List.length_cons]; omega)
  rw [if_neg (by rw [k2]; decide)]
  rcases k8 (eqN on []) with eo|eo
  · rw [if_pos eo]
    simp +contextual -implicitDefEqProofs only [a2A,SS,rA,rS,rL,rE,reduceCtorEq,k1,k2,eo]
    exact tail [46,46,46] _ (by simp only [List.length_cons,List.length_nil]; omega)
  · rw [if_neg (by rw [eo]; decide)]
    have c1:4+on.length≤2 ^ 62:=by omega
    have c2:3+(on.length+1+1+1+1)≤2 ^ 62:=by omega
    simp +contextual -implicitDefEqProofs only [a2A,SS,rA,rS,rL,rE,reduceCtorEq,k1,k2,eo,c1,c2]
    exact tail (46::46::46::32::111::110::32::on) _ (by simp only [List.length_cons]; omega)
end Go.Cb.CodeA
