/- What functions of the abstract machine answer. No conditions but those that each theorem names. -/
import Derived.Test.YthnliekianmljaaGreatDoorL1
set_option maxRecDepth 100000
set_option linter.unusedSimpArgs false
set_option linter.unusedVariables false
namespace Go.Cb.CodeA
open Go Go.Cb
open Nat renaming reduceAdd → rA,reduceSub → rS,reduceLeDiff → rL,reduceEqDiff → rE
attribute [local congr] i8 k4 k6 k7 j4 j3 l8 l7 V.runR_congr

theorem b5t {l:List Frag} {f:Frag} (h:f∈l):m3 f.sub≤D4 l:=by
 induction l with
 | nil=>cases h
 | cons x l ih =>
  have e:D4 (x::l)=1+m3 x.sub+D4 l:=by simp [D4,m2,o9]
  rw [e]
  rcases List.mem_cons.1 h with rfl|h
  · omega
  · have:=ih h; omega
theorem b3h (s typ:List Nat) {v:Val} (hv:v.Fin):EvQ tbl 8 [.str s,.str typ,.agg v.row] [] (fun a _=>a=.bool true):=by
 have hgr:=c0W hv
 have hri:=c2d hv
 obtain ⟨vk,vn,vs,vks,vls⟩:=v
 simp only [Val.row_eq] at hgr hri ⊢
 refine EvQ.body (fn:=a8) rfl rfl rfl ?_
 simp +contextual -implicitDefEqProofs only [K8,SS,rA,rS,rL,rE,reduceCtorEq]
 refine WC.call (EvQ.of_ev (Q:=fun a st=>a=.bool true∧st=a4N) c2J ⟨rfl,rfl⟩) rfl rfl ?_
 rintro _ st1 ⟨rfl,hst1⟩
 simp +contextual -implicitDefEqProofs only [K8,SS,rA,rS,rL,rE,reduceCtorEq]
 have early:∀ (st:St),st=a4N→WC (fun n=>d8 (e8 tbl n) n (a8s4.seq ACode.ret) [.str s,.str typ,.agg [.int .u8 vk,.int .i64 vn,.str vs,.list false (vks.map b9),.list false (vls.map Val.row)],.box [.int .u8 vk,.int .i64 vn,.str vs,.list false (vks.map b9),.list false (vls.map Val.row)],.bool false,.undef,.undef,.undef,.undef,.undef,.undef,.undef,.undef] st) (fun o=>∃ r st',finK [ResK.v 4] (some o)=some (r,st')∧r=.bool true):=by
  rintro st rfl
  simp +contextual -implicitDefEqProofs only [K8,SS,rA,rS,rL,rE,reduceCtorEq]
  refine WC.call (EvQ.of_ev (Q:=fun a st=>a=.bool true) c2x rfl) rfl rfl ?_
  rintro _ st2 rfl
  simp +contextual -implicitDefEqProofs only [K8,SS,rA,rS,rL,rE,reduceCtorEq]
  exact WC.ret ⟨_,_,rfl,rfl⟩
 refine WC.call (hgr st1) rfl rfl ?_
 rintro _ st1 ⟨rfl,b,rfl,hb⟩
 cases b with
 | true =>
  simp +contextual -implicitDefEqProofs only [K8,SS,rA,rS,rL,rE,reduceCtorEq]
  have:=early st1 hst1
  simp +contextual -implicitDefEqProofs only [K8,SS,rA,rS,rL,rE,reduceCtorEq] at this
  exact this
 | false =>
 simp +contextual -implicitDefEqProofs only [K8,SS,rA,rS,rL,rE,reduceCtorEq]
 refine WC.call (hri st1) rfl rfl ?_
 rintro _ st1 ⟨rfl,b,rfl,hb2⟩
 cases b with
 | false =>
  simp +contextual -implicitDefEqProofs only [K8,SS,rA,rS,rL,rE,reduceCtorEq]
  have:=early st1 hst1
  simp +contextual -implicitDefEqProofs only [K8,SS,rA,rS,rL,rE,reduceCtorEq] at this
  exact this
 | true =>
 have hks:vks.length≤10000:=by
  cases hb rfl with
  | mk _ _ _ _ _ h1 _ _=>omega
 have hev:vk=6→vks.length=vls.length:=by
  cases hb2 rfl with
  | mk _ _ _ _ _ h1 _=>exact h1
 clear hgr hri hb hb2 early
 simp +contextual -implicitDefEqProofs only [K8,SS,rA,rS,rL,rE,reduceCtorEq]
 refine WC.call (d4S s st1) rfl rfl ?_
 rintro _ st2 ⟨D,at',e,rfl,hD,ho,hf,hdS,hS,t,rfl,ht⟩
 by_cases he:e=0
 rotate_left
 · have hk2:eqI e 0=false:=by rw [eqI_eq]; simpa using he
   simp +contextual -implicitDefEqProofs only [K8,SS,rA,rS,rL,rE,reduceCtorEq,Docm.row,hk2]
   exact WC.ret ⟨_,_,rfl,rfl⟩
 have hk2:eqI e 0=true:=by rw [eqI_eq,he]; rfl
 simp +contextual -implicitDefEqProofs only [K8,SS,rA,rS,rL,rE,reduceCtorEq,Docm.row,hk2]
 obtain ⟨ob,rfl⟩:=ht he
 have hsz:=c2D (s:=s) (e:=e) (hS he)
 rw [if_pos he] at hdS
 obtain ⟨hDK,hof,hff⟩:=c1v hdS hD
 rw [hst1]
 refine WC.call (EvQ.of_ev (Q:=fun a st=>a=.tuple [.ptr 52 0,.ptr 80 0]∧st=a9a ob) (c9P ob) ⟨rfl,rfl⟩) rfl rfl ?_
 rintro _ st3 ⟨rfl,hst3⟩
 have hb3:BaseS st3:=by rw [hst3]; exact ⟨c76 ob,c2P ob⟩
 clear hst3 hst1
 have hty:∃ tys:List (List Nat),tys.length=6∧[[AV.str typ],[AV.str [80,101,114,115,111,110]],[AV.str [67,97,116]],[AV.str [68,111,103]],[AV.str [81,117,101,114,121]],[AV.str [77,117,116,97,116,105,111,110]]]=tys.map b9:=⟨[typ,[80,101,114,115,111,110],[67,97,116],[68,111,103],[81,117,101,114,121],[77,117,116,97,116,105,111,110]],rfl,rfl⟩
 obtain ⟨tys,htl,hte⟩:=hty
 have q0:0 < 6:=by decide
 have q1:1 < 6:=by decide
 have q2:2 < 6:=by decide
 have q3:3 < 6:=by decide
 have q4:4 < 6:=by decide
 have q5:5 < 6:=by decide
 simp +contextual -implicitDefEqProofs only [K8,SS,rA,rS,rL,rE,reduceCtorEq,hte,q0,q1,q2,q3,q4,q5]
 refine WC.loopR (fun mm fr st'=>∃ (i:Nat) (v11 v12:AV),i≤tys.length∧mm=tys.length - i∧BaseS st'∧fr=[.str s,.str typ,.agg [.int .u8 vk,.int .i64 vn,.str vs,.list false (vks.map b9),.list false (vls.map Val.row)],.box [.int .u8 vk,.int .i64 vn,.str vs,.list false (vks.map b9),.list false (vls.map Val.row)],.bool false,.box [.list false (D.ops.map Op.row),.list false (D.frags.map Frag.row)],.int .i64 e,.ptr 52 0,.ptr 80 0,.list true (tys.map b9),.int .i64 i,v11,v12]) (m:=tys.length) ⟨0,_,_,Nat.zero_le _,rfl,hb3,rfl⟩ ?_
 clear hb3
 rintro mm fr st3 ⟨i,v11,v12,hi,rfl,hb3,rfl⟩
 simp +contextual -implicitDefEqProofs only [K8,SS,rA,rS,rL,rE,reduceCtorEq,List.length_map]
 by_cases hil:i < tys.length
 rotate_left
 · simp +contextual -implicitDefEqProofs only [K8,SS,rA,rS,rL,rE,reduceCtorEq,hil]
   refine WC.leave ?_
   simp +contextual -implicitDefEqProofs only [K8,SS,rA,rS,rL,rE,reduceCtorEq]
   exact WC.ret ⟨_,_,rfl,rfl⟩
 have ety:(tys.map b9)[i]?=some [.str tys[i]]:=by rw [List.getElem?_map,List.getElem?_eq_getElem hil]; rfl
 have hi1:=l5 (show i+1 < 2 ^ 63 by omega)
 revert ety
 generalize tys[i]=ty
 intro ety
 simp +contextual -implicitDefEqProofs only [K8,SS,rA,rS,rL,rE,reduceCtorEq,hil]
 -- the operations
 refine WC.loopR (fun mm fr st'=>∃ (j:Nat),j≤D.ops.length∧mm=D.ops.length - j∧BaseS st'∧fr=[.str s,.str typ,.agg [.int .u8 vk,.int .i64 vn,.str vs,.list false (vks.map b9),.list false (vls.map Val.row)],.box [.int .u8 vk,.int .i64 vn,.str vs,.list false (vks.map b9),.list false (vls.map Val.row)],.bool false,.box [.list false (D.ops.map Op.row),.list false (D.frags.map Frag.row)],.int .i64 e,.ptr 52 0,.ptr 80 0,.list true (tys.map b9),.int .i64 i,.int .i64 j,v12]) (m:=D.ops.length) ⟨0,Nat.zero_le _,rfl,hb3,rfl⟩ ?_
 clear hb3
 rintro mm fr st4 ⟨j,hj,rfl,hb4,rfl⟩
 simp +contextual -implicitDefEqProofs only [K8,SS,rA,rS,rL,rE,reduceCtorEq,List.length_map]
 by_cases hjl:j < D.ops.length
 · have e2:(D.ops.map Op.row)[j]?=some (D.ops[j]).row:=by rw [List.getElem?_map,List.getElem?_eq_getElem hjl]; rfl
   have hm:=List.getElem_mem hjl
   have hsub:=(hD.ops _ hm).sub
   have hos:=b4z hm
   have hk:=hDK.1 _ hm
   have hfi:=hof _ hm
   have hj1:=l5 (show j+1 < 2 ^ 63 by omega)
   revert e2 hsub hos hk hfi
   generalize D.ops[j]=op
   obtain ⟨om,on,ovs,sub⟩:=op
   intro e2 hsub hos hk hfi
   have e2:(D.ops.map Op.row)[j]?=some [.bool om,.str on,.list false (ovs.map VDef.row),.list false (sub.map Sel.row)]:=e2
   have hos:m3 sub≤K3 D.ops:=hos
   have hsub:a2B sub:=hsub
   have hsl:=hsub.1
   have hp:=b5i hD hDK hf hff ty (k:=vk) (n:=vn) (s:=vs) hks hev (l:=sub) ⟨by omega,hsub.2⟩ hk hfi (by omega) hb4
   simp +contextual -implicitDefEqProofs only [K8,SS,rA,rS,rL,rE,reduceCtorEq,hjl,e2,ety]
   refine WC.call hp rfl rfl ?_
   rintro r st5 ⟨pr,hp⟩
   simp +contextual -implicitDefEqProofs only [K8,SS,rA,rS,rL,rE,reduceCtorEq,e2,ety,pr.st,pr.sb,pr.wk]
   refine WC.call hp rfl rfl ?_
   rintro r2 st6 ⟨pr2,hp⟩
   simp +contextual -implicitDefEqProofs only [K8,SS,rA,rS,rL,rE,reduceCtorEq,pr.st,pr.sb,pr.wk,pr2.st,pr2.sb,pr2.wk]
   refine WC.call hp (by simp only [R.allPlain_c,R.allPlain_n,pr.pl,pr2.pl]; rfl) (by simp only [List.map_cons,List.map_nil,pr.wk,pr2.wk]) ?_
   rintro _ st7 ⟨rfl,hb7⟩
   simp +contextual -implicitDefEqProofs only [K8,SS,rA,rS,rL,rE,reduceCtorEq,hj1]
   exact WC.next (m':=D.ops.length - (j+1)) (by omega) ⟨j+1,hjl,rfl,hb7,rfl⟩
 simp +contextual -implicitDefEqProofs only [K8,SS,rA,rS,rL,rE,reduceCtorEq,hjl]
 refine WC.leave ?_
 simp +contextual -implicitDefEqProofs only [K8,SS,rA,rS,rL,rE,reduceCtorEq]
 -- the fragments
 refine WC.loopR (fun mm fr st'=>∃ (q:Nat),q≤D.frags.length∧mm=D.frags.length - q∧BaseS st'∧fr=[.str s,.str typ,.agg [.int .u8 vk,.int .i64 vn,.str vs,.list false (vks.map b9),.list false (vls.map Val.row)],.box [.int .u8 vk,.int .i64 vn,.str vs,.list false (vks.map b9),.list false (vls.map Val.row)],.bool false,.box [.list false (D.ops.map Op.row),.list false (D.frags.map Frag.row)],.int .i64 e,.ptr 52 0,.ptr 80 0,.list true (tys.map b9),.int .i64 i,.int .i64 j,.int .i64 q]) (m:=D.frags.length) ⟨0,Nat.zero_le _,rfl,hb4,rfl⟩ ?_
 clear hb4
 rintro mm fr st4 ⟨q,hq,rfl,hb4,rfl⟩
 simp +contextual -implicitDefEqProofs only [K8,SS,rA,rS,rL,rE,reduceCtorEq,List.length_map]
 by_cases hql:q < D.frags.length
 · have e2:(D.frags.map Frag.row)[q]?=some (D.frags[q]).row:=by rw [List.getElem?_map,List.getElem?_eq_getElem hql]; rfl
   have hm:=List.getElem_mem hql
   have hsub:=hD.frags _ hm
   have hk:=hDK.2 _ hm
   have hfi:=hff _ hm
   have hfs:m3 (D.frags[q]).sub≤D4 D.frags:=b5t hm
   have hj1:=l5 (show q+1 < 2 ^ 63 by omega)
   revert e2 hsub hfs hk hfi
   generalize D.frags[q]=f
   obtain ⟨gn,gon,sub⟩:=f
   intro e2 hsub hk hfi hfs
   have e2:(D.frags.map Frag.row)[q]?=some [.str gn,.str gon,.list false (sub.map Sel.row)]:=e2
   have hfs:m3 sub≤D4 D.frags:=hfs
   have hsub:a2B sub:=hsub
   have hsl:=hsub.1
   have hp:=b5i hD hDK hf hff ty (k:=vk) (n:=vn) (s:=vs) hks hev (l:=sub) ⟨by omega,hsub.2⟩ hk hfi (by omega) hb4
   simp +contextual -implicitDefEqProofs only [K8,SS,rA,rS,rL,rE,reduceCtorEq,hql,e2,ety]
   refine WC.call hp rfl rfl ?_
   rintro r st5 ⟨pr,hp⟩
   simp +contextual -implicitDefEqProofs only [K8,SS,rA,rS,rL,rE,reduceCtorEq,e2,ety,pr.st,pr.sb,pr.wk]
   refine WC.call hp rfl rfl ?_
   rintro r2 st6 ⟨pr2,hp⟩
   simp +contextual -implicitDefEqProofs only [K8,SS,rA,rS,rL,rE,reduceCtorEq,pr.st,pr.sb,pr.wk,pr2.st,pr2.sb,pr2.wk]
   refine WC.call hp (by simp only [R.allPlain_c,R.allPlain_n,pr.pl,pr2.pl]; rfl) (by simp only [List.map_cons,List.map_nil,pr.wk,pr2.wk]) ?_
   rintro _ st7 ⟨rfl,hb7⟩
   simp +contextual -implicitDefEqProofs only [K8,SS,rA,rS,rL,rE,reduceCtorEq,hj1]
   exact WC.next (m':=D.frags.length - (q+1)) (by omega) ⟨q+1,hql,rfl,hb7,rfl⟩
 · simp +contextual -implicitDefEqProofs only [K8,SS,rA,rS,rL,rE,reduceCtorEq,hql]
   refine WC.leave ?_
   simp +contextual -implicitDefEqProofs only [K8,SS,rA,rS,rL,rE,reduceCtorEq,hi1]
   exact WC.next (m':=tys.length - (i+1)) (by omega) ⟨i+1,_,_,hil,rfl,hb4,rfl⟩
theorem fields_am (s typ:List Nat) {v:Val} (hv:v.Fin):∃ n st',e8 tbl n 8 [.str s,.str typ,.agg v.row] []=some (.bool true,st'):=d1w (b3h s typ hv)
end Go.Cb.CodeA
