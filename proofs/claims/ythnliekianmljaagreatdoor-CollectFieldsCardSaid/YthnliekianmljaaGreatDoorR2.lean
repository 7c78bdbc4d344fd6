import Derived.Test.YthnliekianmljaaGreatDoorR1
import Derived.Test.YthnliekianmljaaGreatDoorS1
set_option maxRecDepth 20000
set_option linter.unusedSimpArgs false
set_option linter.unusedVariables false
namespace Go.Cb.CodeA
open Go Go.Cb
open Nat renaming reduceAdd → rA,reduceSub → rS,reduceLeDiff → rL,reduceEqDiff → rE
attribute [local congr] i8 k4 k6 k7 j4 j3 l8 l7 V.runR_congr

theorem c7o (m:Nat):(!ltI ((m:Int) - 1) 0)=decide (0 < m):=by
 rw [ltI_eq]
 by_cases h:0 < m
 · rw [decide_eq_true h,decide_eq_false (by omega)]; rfl
 · rw [decide_eq_false h,decide_eq_true (by omega)]; rfl
theorem a0t (m:Nat) (h:m≤10000):l9 .i64 (P6 (m:Int) 1)=(m:Int) - 1:=by rw [subI_eq,J0 (by omega) (by omega)]
theorem a3h (m:Nat):((m+1:Nat):Int) - 1=(m:Int):=by omega
/-- do its directives let a selection be? -/
theorem b7l {K:Cfg} (hK:K.OK) (k:Int) (al nm on:List Nat) (as:List Arg) (ds:List Dir) (sub:List Sel) (hd:b06 ds) (st:St) :
 EvQ tbl 62 [.agg [.int .u8 k,.str al,.str nm,.str on,.list false (as.map Arg.row),.list false (ds.map Dir.row),.list false (sub.map Sel.row)],.agg K.varRow] st (fun a st'=>st'=st∧a=.bool (z6 K ds)):=by
 have hdl:=hd.1
 refine EvQ.body (fn:=a62) rfl rfl rfl ?_
 simp +contextual -implicitDefEqProofs only [K62,SS,rA,rS,rL,rE,reduceCtorEq]
 refine WC.loopR (fun mm fr st'=>st'=st∧∃ (i:Nat) (v6 v7 v8 v9:AV),i≤ds.length∧mm=ds.length - i∧ds.any (a4r K)=(ds.drop i).any (a4r K)∧fr=[.agg [.int .u8 k,.str al,.str nm,.str on,.list false (as.map Arg.row),.list false (ds.map Dir.row),.list false (sub.map Sel.row)],.agg K.varRow,.box [.int .u8 k,.str al,.str nm,.str on,.list false (as.map Arg.row),.list false (ds.map Dir.row),.list false (sub.map Sel.row)],.box K.varRow,.bool false,.int .i64 i,v6,v7,v8,v9]) (m:=ds.length) ⟨rfl,0,_,_,_,_,Nat.zero_le _,rfl,rfl,rfl⟩ ?_
 rintro mm fr st' ⟨rfl,i,v6,v7,v8,v9,hi,rfl,hany,rfl⟩
 simp +contextual -implicitDefEqProofs only [K62,SS,rA,rS,rL,rE,reduceCtorEq,List.length_map]
 by_cases hil:i < ds.length
 rotate_left
 · simp +contextual -implicitDefEqProofs only [K62,SS,rA,rS,rL,rE,reduceCtorEq,hil]
   refine WC.leave ?_
   simp +contextual -implicitDefEqProofs only [K62,SS,rA,rS,rL,rE,reduceCtorEq]
   refine WC.ret ⟨_,_,rfl,rfl,?_⟩
   rw [z6,hany,List.drop_of_length_le (by omega)]
   rfl
 have e2:(ds.map Dir.row)[i]?=some (ds[i]).row:=by rw [List.getElem?_map,List.getElem?_eq_getElem hil]; rfl
 have hda:=hd.2 _ (List.getElem_mem hil)
 rw [List.drop_eq_getElem_cons hil,List.any_cons] at hany
 revert e2 hda hany
 generalize ds[i]=d
 intro hany e2 hda
 obtain ⟨dn,das⟩:=d
 have hdl2:das.length≤3000:=hda.1
 have e2:(ds.map Dir.row)[i]?=some [.str dn,.list false (das.map Arg.row)]:=e2
 simp +contextual -implicitDefEqProofs only [K62,SS,rA,rS,rL,rE,reduceCtorEq,hil,e2,List.length_map,a0t das.length (by omega)]
 refine WC.loopR (fun mm fr st2=>st2=st'∧∃ (m:Nat) (v9:AV),m≤das.length∧mm=m∧fr=[.agg [.int .u8 k,.str al,.str nm,.str on,.list false (as.map Arg.row),.list false (ds.map Dir.row),.list false (sub.map Sel.row)],.agg K.varRow,.box [.int .u8 k,.str al,.str nm,.str on,.list false (as.map Arg.row),.list false (ds.map Dir.row),.list false (sub.map Sel.row)],.box K.varRow,.bool false,.int .i64 i,.box [.str dn,.list false (das.map Arg.row)],.bool (E2 K (das.drop m)),.int .i64 ((m:Int) - 1),v9]) (m:=das.length) ⟨rfl,das.length,_,Nat.le_refl _,rfl,by rw [List.drop_length]; rfl⟩ ?_
 rintro mm fr st2 ⟨rfl,m,v9',hm,rfl,rfl⟩
 simp +contextual -implicitDefEqProofs only [K62,SS,rA,rS,rL,rE,reduceCtorEq,c7o]
 cases mm with
 | zero =>
  simp +contextual -implicitDefEqProofs only [K62,SS,rA,rS,rL,rE,reduceCtorEq,show (decide (0 < 0))=false from rfl,List.drop_zero]
  refine WC.leave ?_
  generalize hyd:E2 K das=yd
  simp +contextual -implicitDefEqProofs only [K62,SS,rA,rS,rL,rE,reduceCtorEq]
  have hob:a4r K ⟨dn,das⟩=(eqN dn [115,107,105,112] && yd || eqN dn [105,110,99,108,117,100,101] && !yd):=by rw [← hyd]; rfl
  rw [hob] at hany
  clear hob
  generalize (eqN dn [115,107,105,112] && yd || eqN dn [105,110,99,108,117,100,101] && !yd)=ob at hany ⊢
  refine WC.br (fun hx=>?_) (fun hx=>?_)
  · simp +contextual -implicitDefEqProofs only [K62,SS,rA,rS,rL,rE,reduceCtorEq]
    refine WC.leaveR ?_
    simp +contextual -implicitDefEqProofs only [K62,SS,rA,rS,rL,rE,reduceCtorEq]
    exact WC.ret ⟨_,_,rfl,rfl,by rw [z6,hany,hx]; rfl⟩
  · simp +contextual -implicitDefEqProofs only [K62,SS,rA,rS,rL,rE,reduceCtorEq,l5 (show i+1 < 2 ^ 63 by omega)]
    exact WC.next (m':=ds.length - (i+1)) (by omega) ⟨rfl,i+1,_,_,_,_,hil,rfl,by rw [hany,hx]; rfl,rfl⟩
 | succ m =>
  have e3:(das.map Arg.row)[m]?=some (das[m]).row:=by rw [List.getElem?_map,List.getElem?_eq_getElem hm]; rfl
  have hdr:E2 K (das.drop m)=E2 K (das[m]::das.drop (m+1)):=by rw [← List.drop_eq_getElem_cons hm]
  revert e3 hdr
  generalize das[m]=x
  intro e3 hdr
  obtain ⟨an,av⟩:=x
  have e3:(das.map Arg.row)[m]?=some (.str an::av.row):=e3
  rw [E2] at hdr
  dsimp only at hdr
  generalize E2 K (das.drop (m+1))=yo at hdr ⊢
  obtain ⟨ak,anum,atx,aks,als⟩:=av
  rw [Val.row_eq] at e3
  simp +contextual -implicitDefEqProofs only [K62,SS,rA,rS,rL,rE,reduceCtorEq,show (decide (0 < m+1))=true from by simp,a3h,e3]
  refine WC.br (fun hx=>?_) (fun hx=>?_)
  · -- another name
    have hx:eqN an ifN=false:=by simpa [ifN] using hx
    rw [if_neg (by rw [hx]; decide)] at hdr
    simp +contextual -implicitDefEqProofs only [K62,SS,rA,rS,rL,rE,reduceCtorEq,a3h,a0t m (by omega)]
    exact WC.next (m':=m) (by omega) ⟨rfl,m,_,by omega,rfl,by rw [hdr]⟩
  · have hx:eqN an ifN=true:=by simpa [ifN] using hx
    rw [if_pos hx] at hdr
    simp +contextual -implicitDefEqProofs only [K62,SS,rA,rS,rL,rE,reduceCtorEq,a3h,e3,Cfg.varRow]
    refine WC.br (fun hy=>?_) (fun hy=>?_)
    · simp +contextual -implicitDefEqProofs only [K62,SS,rA,rS,rL,rE,reduceCtorEq]
      have h9:=c8z hK atx st2
      unfold Cfg.varRow at h9
      refine WC.call h9 rfl rfl ?_
      rintro _ _ ⟨rfl,b,rfl⟩
      have hv:K.val (.mk ak anum atx aks als)=K.get atx:=by unfold Cfg.val; rw [if_pos (show eqI (Val.mk ak anum atx aks als).kind 7=true from hy)]; rfl
      rw [hv] at hdr
      generalize K.get atx=g at hdr ⊢
      obtain ⟨gk,gn,gs,gks,gls⟩:=g
      rw [Val.row_eq]
      simp +contextual -implicitDefEqProofs only [K62,SS,rA,rS,rL,rE,reduceCtorEq,a0t m (by omega)]
      exact WC.next (m':=m) (by omega) ⟨rfl,m,_,by omega,rfl,by rw [hdr]; rfl⟩
    · have hv:K.val (.mk ak anum atx aks als)=.mk ak anum atx aks als:=by unfold Cfg.val; rw [if_neg (by rw [show eqI (Val.mk ak anum atx aks als).kind 7=false from hy]; decide)]
      rw [hv] at hdr
      simp +contextual -implicitDefEqProofs only [K62,SS,rA,rS,rL,rE,reduceCtorEq,a0t m (by omega)]
      exact WC.next (m':=m) (by omega) ⟨rfl,m,_,by omega,rfl,by rw [hdr]; rfl⟩
end Go.Cb.CodeA
