import Derived.Test.YthnliekianmljaaGreatDoorS9
set_option maxRecDepth 20000
set_option linter.unusedSimpArgs false
set_option linter.unusedVariables false
namespace Go.Cb.CodeA
open Go Go.Cb
open Nat renaming reduceAdd → rA,reduceSub → rS,reduceLeDiff → rL,reduceEqDiff → rE
attribute [local congr] i8 k4 k6 k7 j4 j3 l8 l7 V.runR_congr

theorem c3M (k:Int) (al nm on:List Nat) (as:List Arg) (ds:List Dir) (sub:List Sel) (st:St):EvQ tbl 37 [.agg [.int .u8 k,.str al,.str nm,.str on,.list false (as.map Arg.row),.list false (ds.map Dir.row),.list false (sub.map Sel.row)]] st (fun a st'=>st'=st∧a=.str (m4 (.mk k al nm on as ds sub))):=by
 refine EvQ.body (fn:=a37) rfl rfl rfl ?_
 simp +contextual -implicitDefEqProofs only [K37,SS,rA,rS,rL,rE,reduceCtorEq]
 refine WC.br (fun hx=>?_) (fun hx=>?_)
 · simp +contextual -implicitDefEqProofs only [K37,SS,rA,rS,rL,rE,reduceCtorEq]
   exact WC.ret ⟨_,_,rfl,rfl,by rw [m4,if_pos hx]; rfl⟩
 · simp +contextual -implicitDefEqProofs only [K37,SS,rA,rS,rL,rE,reduceCtorEq]
   exact WC.ret ⟨_,_,rfl,rfl,by rw [m4,if_neg (by rw [hx]; decide)]; rfl⟩
/-- groups, their objects from N on -/
structure GrpT (N:Nat) (st:St) (out:AV) (gs:List Grp):Prop where
 out:(gs=[]∧out=.nils)∨∃ o,out=.sl o 0 gs.length 2∧N≤o∧st[o]?=some (.cells (k9 gs))∧∀ g∈gs,g.fo≠o
 fs:∀ g∈gs,N≤g.fo∧st[g.fo]?=some (.cells (j6 g.fs))
 nd:(gs.map Grp.fo).Nodup
theorem b2H {α:Type} (p:α→Bool) (x:α):∀ l:List α,pI p (l++[x])=match pI p l with|some j=>some j|none=>if p x then some l.length else none
 | []=>by rw [List.nil_append,F3]; cases p x <;> rfl
 | y::l=>by
  rw [List.cons_append,F3,F3,b2H p x l]
  cases p y with
  | true=>rfl
  | false =>
   cases pI p l with
   | some j=>rfl
   | none=>cases p x <;> rfl
theorem c3j {gs:List Grp} (hn:(gs.map Grp.key).Nodup) {kp:List Nat} {k:Nat} (hk:k < gs.length) (hx:eqN (gs[k]).key kp=true):pI (fun g:Grp=>eqN g.key kp) (gs.take k)=none:=by
 cases hq:pI (fun g:Grp=>eqN g.key kp) (gs.take k) with
 | none=>rfl
 | some j =>
  obtain ⟨g,h1,h2,h3⟩:=K6 hq
  have h3:j < k:=by rw [List.length_take] at h3; omega
  rw [List.getElem?_take,if_pos h3] at h1
  have e1:(gs.map Grp.key)[j]?=some kp:=by rw [List.getElem?_map,h1]; exact congrArg some ((u6 _ _).1 h2)
  have e2:(gs.map Grp.key)[k]?=some kp:=by rw [List.getElem?_map,List.getElem?_eq_getElem hk]; exact congrArg some ((u6 _ _).1 hx)
  have:=(List.getElem?_inj (List.getElem?_eq_some_iff.1 e1).1 hn).1 (e1.trans e2.symm)
  omega
theorem b7X {gs:List Grp} {F:List Sel} (h:gs.map Grp.pr=Q8 F):(gs.map Grp.key).Nodup:=by
 have e:gs.map Grp.key=W1 F:=by
  have h1:gs.map Grp.key=(gs.map Grp.pr).map Prod.fst:=by rw [List.map_map]; rfl
  rw [h1,h,b2C,List.map_map]
  exact List.map_id _
 rw [e]
 exact b0E F
/-- how the loop of groups stands -/
structure FdIv (N:Nat) (st1:St) (F:List Sel) (i:Nat) (out:AV) (gs:List Grp) (st:St):Prop where
 grp:GrpT N st out gs
 pr:gs.map Grp.pr=Q8 (F.take i)
 old:∀ j x,j < N→st1[j]?=some x→st[j]?=some x
 len:N≤st.length
theorem c7W (F:List Sel):(F.map Sel.row).flatten=j6 F:=by rw [j6,List.flatMap_def]
theorem X4:∀ (F:List Sel) (i:Nat) (h:i < F.length),(j6 F).drop (i*7)=(F[i]).row++(j6 F).drop ((i+1)*7)
 | x::F,0,_=>by
  show j6 (x::F)=x.row++(j6 (x::F)).drop 7
  have e:j6 (x::F)=x.row++j6 F:=by rw [j6,List.flatMap_cons]; rfl
  rw [e,List.drop_append_of_le_length (by rw [Sel.row_len]; exact Nat.le_refl _),List.drop_of_length_le (by rw [Sel.row_len]; exact Nat.le_refl _)]
  rfl
 | x::F,i+1,h=>by
  have e:j6 (x::F)=x.row++j6 F:=by rw [j6,List.flatMap_cons]; rfl
  have hd:∀ k,(x.row++j6 F).drop ((k+1)*7)=(j6 F).drop (k*7):=fun k=>by
   rw [show (k+1)*7=x.row.length+k*7 by rw [Sel.row_len]; omega,List.drop_length_add_append]
  rw [e,hd,hd,X4 F i (by simpa using h)]
  rfl
theorem GrpT.new {N o:Nat} {gs:List Grp} {st2:St} {k:Int} {al nm on:List Nat} {as:List Arg} {ds:List Dir} {sub:List Sel} {key:List Nat} (hNo:N≤o) (ho:st2[o]?=some (.cells (k9 gs++[AV.str key,AV.list true []]))) (hfs:∀ g∈gs,N≤g.fo∧g.fo≠o∧st2[g.fo]?=some (.cells (j6 g.fs))) (hnd:(gs.map Grp.fo).Nodup) (hN:N≤st2.length) :
 GrpT N (stM st2 o ((k9 gs++[AV.str key,AV.list true []]).set (gs.length*2+1) (.sl st2.length 0 1 7)) [.int .u8 k,.str al,.str nm,.str on,.list false (as.map Arg.row),.list false (ds.map Dir.row),.list false (sub.map Sel.row)]) (.sl o 0 (gs.length+1) 2) (gs++[⟨key,st2.length,[.mk k al nm on as ds sub]⟩]):=by
 have hol:o < st2.length:=(List.getElem?_eq_some_iff.1 ho).1
 refine ⟨Or.inr ⟨o,by rw [List.length_append]; rfl,hNo,?_,fun g hg=>?_⟩,fun g hg=>?_,?_⟩
 · unfold stM
   refine (l6 (m9 ho)).trans ?_
   rw [a5E]
   congr 2
   rw [List.set_append_right _ _ (by rw [C3]; omega),C3,show gs.length*2+1 - gs.length*2=1 by omega]
   rfl
 · rcases List.mem_append.1 hg with hg|hg
   · exact (hfs g hg).2.1
   · simp at hg; subst hg
     show st2.length≠o
     omega
 · unfold stM
   rcases List.mem_append.1 hg with hg|hg
   · obtain ⟨h1,h2,h3⟩:=hfs g hg
     exact ⟨h1,l6 (g9 h3 (by omega))⟩
   · simp at hg; subst hg
     refine ⟨hN,?_⟩
     show (st2.set o _++[_])[st2.length]?=some (.cells (j6 [_]))
     have:=F5 (st2.set o (Cb.Obj.cells ((k9 gs++[AV.str key,AV.list true []]).set (gs.length*2+1) (.sl st2.length 0 1 7)))) (Cb.Obj.cells [.int .u8 k,.str al,.str nm,.str on,.list false (as.map Arg.row),.list false (ds.map Dir.row),.list false (sub.map Sel.row)])
     rw [List.length_set] at this
     rw [this]
     simp only [j6,List.flatMap_cons,List.flatMap_nil,List.append_nil,Sel.row_eq]
 · rw [List.map_append,List.nodup_append]
   refine ⟨hnd,by simp,fun a ha b hb=>?_⟩
   simp at hb; subst hb
   obtain ⟨g,hg,rfl⟩:=List.mem_map.1 ha
   have:=(List.getElem?_eq_some_iff.1 (hfs g hg).2.2).1
   omega
theorem GrpT.more {N o i:Nat} {gs:List Grp} {g:Grp} {st2:St} {k:Int} {al nm on:List Nat} {as:List Arg} {ds:List Dir} {sub:List Sel} (hG:GrpT N st2 (.sl o 0 gs.length 2) gs) (hg:gs[i]?=some g) (hN:N≤st2.length) :
 GrpT N (stN st2 o g.fo ((k9 gs).set (i*2+1) (.sl st2.length 0 (g.fs.length+1) 7)) (j6 g.fs++[.int .u8 k,.str al,.str nm,.str on,.list false (as.map Arg.row),.list false (ds.map Dir.row),.list false (sub.map Sel.row)])) (.sl o 0 gs.length 2) (gs.set i ⟨g.key,st2.length,g.fs++[.mk k al nm on as ds sub]⟩):=by
 rcases hG.out with ⟨_,h0⟩|⟨o',h0,hco,ho,hof⟩
 · cases h0
 cases h0
 have hol:o < st2.length:=(List.getElem?_eq_some_iff.1 ho).1
 have hil:i < gs.length:=(List.getElem?_eq_some_iff.1 hg).1
 have hgm:=List.mem_of_getElem? hg
 obtain ⟨hcf,hX⟩:=hG.fs g hgm
 have hne:=hof g hgm
 have hset:=a5q gs i g ⟨g.key,st2.length,g.fs++[.mk k al nm on as ds sub]⟩ hg rfl
 have hnl:∀ g'∈gs,g'.fo < st2.length:=fun g' hg'=>(List.getElem?_eq_some_iff.1 (hG.fs g' hg').2).1
 have hother:∀ (j:Nat) (g':Grp),gs[j]?=some g'→j≠i→g'.fo≠g.fo:=by
  intro j g' hj hji he
  have h1:(gs.map Grp.fo)[j]?=some g'.fo:=by rw [List.getElem?_map,hj]; rfl
  have h2:(gs.map Grp.fo)[i]?=some g.fo:=by rw [List.getElem?_map,hg]; rfl
  have h3:=(List.getElem?_eq_some_iff.1 h1).1
  exact hji (((List.getElem?_inj h3 hG.nd).1 (by rw [h1,h2,he])))
 refine ⟨Or.inr ⟨o,by rw [List.length_set],hco,?_,fun g' hg'=>?_⟩,fun g' hg'=>?_,?_⟩
 · refine (l6 (g9 (m9 ho) hne)).trans ?_
   rw [hset,List.length_append]
   rfl
 · rcases List.mem_or_eq_of_mem_set hg' with h1|h1
   · exact hof g' h1
   · subst h1; show st2.length≠o; omega
 · obtain ⟨j,hj⟩:=List.mem_iff_getElem?.1 hg'
   rw [List.getElem?_set] at hj
   by_cases hji:i=j
   · subst hji
     rw [if_pos rfl,if_pos hil] at hj
     cases hj
     refine ⟨hN,?_⟩
     have:=F5 ((st2.set o (Cb.Obj.cells ((k9 gs).set (i*2+1) (.sl st2.length 0 (g.fs.length+1) 7)))).set g.fo Cb.Obj.dead) (Cb.Obj.cells (j6 g.fs++[.int .u8 k,.str al,.str nm,.str on,.list false (as.map Arg.row),.list false (ds.map Dir.row),.list false (sub.map Sel.row)]))
     rw [List.length_set,List.length_set] at this
     refine this.trans ?_
     show _=some (Cb.Obj.cells (j6 (g.fs++[_])))
     rw [a3P,Sel.row_eq]
   · rw [if_neg hji] at hj
     obtain ⟨h1,h2⟩:=hG.fs g' (List.mem_of_getElem? hj)
     exact ⟨h1,l6 (g9 (g9 h2 (fun e=>hof g' (List.mem_of_getElem? hj) e.symm)) (fun e=>hother j g' hj (fun e=>hji e.symm) e.symm))⟩
 · rw [List.map_set]
   refine a8d hG.nd fun hm=>?_
   obtain ⟨g',hg',e⟩:=List.mem_map.1 hm
   have:=hnl g' hg'
   have e:g'.fo=st2.length:=e
   omega
theorem M8 (call:b6) (bx:AV) (st:St) (agg:Bool) (n o off p f k s:Nat):D8 agg n call [.ptr o off,.sl p f k s] bx st=if Nat.beq o p=true then z0 agg n call [.ptr o off] bx st else none:=b5 rfl
theorem b5E {K:Cfg} (hK:K.OK) {T:List TD} (hiB:∀ n,isB K n=(eqN n K.typ || o9 (O9 T n) K.typ)) (hpl:∀ n,(O9 T n).length≤10000) (hKd:∀ f∈K.frags,∀ x∈f.sub,x.Kd) {mo:Nat} {l:List Sel} {F:List Sel} {s':List (List Nat)} {st:St} (hmo:mo < st.length)
 (hrun:FRun K l [] F s') (hl:l.length≤9000∧∀ x∈l,x.OK) (hkd:∀ x∈l,x.Kd) (hsch:Sch9 T mo st) (hF:F.length≤9000) (hs:m2 K.frags []≤9000) :
 EvQ tbl 16 [.ptr mo 0,.agg [.list false K.ops,.list false (K.frags.map Frag.row)],.str K.typ,.list false (l.map Sel.row),.agg K.varRow] st (fun r st'=>∃ gs N,st.length≤N∧GrpT N st' r gs∧gs.map Grp.pr=Q8 F∧(∀ (j:Nat) (x:Cb.Obj),j < st.length→st[j]?=some x→st'[j]?=some x)):=by
 have hfl:=c7Z hK hiB hpl hKd hmo _ l [] F s' [] .nils .nils st hrun (Nat.le_refl _) hl hkd hsch (Nat.le_refl _) (Or.inl ⟨rfl,rfl⟩) (Or.inl ⟨rfl,rfl⟩) (by simpa using hF) (by simpa using hs)
 unfold Cfg.varRow at hfl ⊢
 refine EvQ.body (fn:=a16) rfl rfl rfl ?_
 simp +contextual -implicitDefEqProofs only [G3,SS,rA,rS,rL,rE,reduceCtorEq]
 refine WC.call hfl rfl rfl ?_
 rintro _ st1 ⟨a,b,rfl,hO,hS,hP⟩
 have pa:=hO.pln
 have pb:=hS.pln
 simp +contextual -implicitDefEqProofs only [G3,SS,rA,rS,rL,rE,reduceCtorEq,pa.st,pa.sb,pa.wk,pb.st,pb.sb,pb.wk]
 rw [List.nil_append] at hO
 have hold:∀ (j:Nat) (x:Cb.Obj),j < st.length→st[j]?=some x→st1[j]?=some x:=fun j x hj hx=>hP.2 j x hj hx
 have hlen:=hP.1
 rcases hO with ⟨hF0,rfl⟩|⟨hF0,ao,hao,rfl,hA⟩
 · have e:F=[]:=by simpa using hF0
   subst e
   refine WC.loopR (fun mm fr st'=>st'=st1∧∃ (v11 v12:AV),fr=[.ptr mo 0,.agg [.list false K.ops,.list false (K.frags.map Frag.row)],.str K.typ,.list false (l.map Sel.row),.agg [.int .u8 K.vk,.int .i64 K.vn,.str K.vs,.list false (K.vks.map b9),.list false (K.vls.map Val.row)],.box [.list false K.ops,.list false (K.frags.map Frag.row)],.box [.int .u8 K.vk,.int .i64 K.vn,.str K.vs,.list false (K.vks.map b9),.list false (K.vls.map Val.row)],.nils,.nils,.nils,.int .i64 0,v11,v12]) (m:=0) ⟨rfl,_,_,rfl⟩ ?_
   rintro mm fr st' ⟨rfl,v11,v12,rfl⟩
   simp +contextual -implicitDefEqProofs only [G3,SS,rA,rS,rL,rE,reduceCtorEq,show ltI 0 0=false from rfl]
   refine WC.leave ?_
   simp +contextual -implicitDefEqProofs only [G3,SS,rA,rS,rL,rE,reduceCtorEq]
   exact WC.ret ⟨_,_,rfl,[],st.length,Nat.le_refl _,⟨Or.inl ⟨rfl,rfl⟩,by simp,by simp⟩,rfl,hold⟩
 rw [c7W] at hA
 rw [List.length_map]
 have haolt:ao < st1.length:=(List.getElem?_eq_some_iff.1 hA).1
 refine WC.loopR (fun mm fr st'=>∃ (i:Nat) (out:AV) (gs:List Grp) (v11 v12:AV),i≤F.length∧mm=F.length - i∧FdIv st1.length st1 F i out gs st'∧fr=[.ptr mo 0,.agg [.list false K.ops,.list false (K.frags.map Frag.row)],.str K.typ,.list false (l.map Sel.row),.agg [.int .u8 K.vk,.int .i64 K.vn,.str K.vs,.list false (K.vks.map b9),.list false (K.vls.map Val.row)],.box [.list false K.ops,.list false (K.frags.map Frag.row)],.box [.int .u8 K.vk,.int .i64 K.vn,.str K.vs,.list false (K.vks.map b9),.list false (K.vls.map Val.row)],.nils,.sl ao 0 F.length 7,out,.int .i64 i,v11,v12]) (m:=F.length) ⟨0,.nils,[],_,_,Nat.zero_le _,rfl,⟨⟨Or.inl ⟨rfl,rfl⟩,by simp,by simp⟩,rfl,fun _ _ _ h=>h,Nat.le_refl _⟩,rfl⟩ ?_
 rintro mm fr st2 ⟨i,out,gs,v11,v12,hi,rfl,hiv,rfl⟩
 have po:Pln out:=by
  rcases hiv.grp.out with ⟨_,rfl⟩|⟨o,rfl,_⟩ <;> exact ⟨rfl,rfl,rfl,rfl⟩
 simp +contextual -implicitDefEqProofs only [G3,SS,rA,rS,rL,rE,reduceCtorEq]
 by_cases hil:i < F.length
 rotate_left
 · simp +contextual -implicitDefEqProofs only [G3,SS,rA,rS,rL,rE,reduceCtorEq,hil]
   refine WC.leave ?_
   simp +contextual -implicitDefEqProofs only [G3,SS,rA,rS,rL,rE,reduceCtorEq,po.st,po.sb,po.wk]
   refine WC.ret ⟨_,_,rfl,gs,st1.length,hlen,?_,?_,fun j x hj hx=>hiv.old j x (by omega) (hold j x hj hx)⟩
   · show GrpT _ _ (AV.weak out) _
     rw [po.wk]
     exact hiv.grp
   · have:=hiv.pr
     rwa [List.take_of_length_le (by omega)] at this
 have hA2:st2[ao]?=some (.cells (j6 F)):=hiv.old ao _ haolt hA
 have hat:=X4 F i hil
 have htk:Q8 (F.take (i+1))=D5 (Q8 (F.take i)) F[i]:=by rw [List.take_add_one,List.getElem?_eq_getElem hil]; exact a2w _ _
 have hmem:i < F.length:=hil
 revert hat htk
 generalize F[i]=x
 intro hat htk
 obtain ⟨k,al,nm,on,as,ds,sub⟩:=x
 rw [Sel.row_eq] at hat
 have hkq:=fun st=>c3M k al nm on as ds sub st
 have hkn:=b7X hiv.pr
 have hlt:(i:Int) < (F.length:Int):=by omega
 simp +contextual -implicitDefEqProofs only [G3,SS,rA,rS,rL,rE,reduceCtorEq,hil,po.st,po.sb,po.wk]
 have hgl:gs.length≤9000:=by
  have h1:=(a1L (F.take i)).1
  rw [← hiv.pr,List.length_map,List.length_take] at h1
  omega
 have hN2:=hiv.len
 have hi1:=l5 (show i+1 < 2 ^ 63 by omega)
 have hrl:(j6 F).drop (i*7)=.int .u8 k::.str al::.str nm::.str on::.list false (as.map Arg.row)::.list false (ds.map Dir.row)::.list false (sub.map Sel.row)::(j6 F).drop ((i+1)*7):=hat
 have h7:7≤((j6 F).drop ((i+1)*7)).length+1+1+1+1+1+1+1:=by omega
 rcases hiv.grp.out with ⟨rfl,rfl⟩|⟨o,rfl,hNo,ho,hof⟩
 · -- none yet
   refine WC.loopR (fun mm fr st'=>st'=st2∧fr=[.ptr mo 0,.agg [.list false K.ops,.list false (K.frags.map Frag.row)],.str K.typ,.list false (l.map Sel.row),.agg [.int .u8 K.vk,.int .i64 K.vn,.str K.vs,.list false (K.vks.map b9),.list false (K.vls.map Val.row)],.box [.list false K.ops,.list false (K.frags.map Frag.row)],.box [.int .u8 K.vk,.int .i64 K.vn,.str K.vs,.list false (K.vks.map b9),.list false (K.vls.map Val.row)],.nils,.sl ao 0 F.length 7,.nils,.int .i64 i,.int .i64 (-1),.int .i64 0]) (m:=0) ⟨rfl,rfl⟩ ?_
   rintro mm fr st3 ⟨rfl,rfl⟩
   simp +contextual -implicitDefEqProofs only [G3,SS,rA,rS,rL,rE,reduceCtorEq,show ltI 0 0=false from rfl]
   refine WC.leave ?_
   simp +contextual -implicitDefEqProofs only [G3,SS,rA,rS,rL,rE,reduceCtorEq,show ltI (-1) 0=true from rfl,hlt,hA2,Nat.zero_add,hrl,h7]
   refine WC.call (hkq _) rfl rfl ?_
   rintro _ st3 ⟨rfl,rfl⟩
   simp +contextual -implicitDefEqProofs only [G3,SS,rA,rS,rL,rE,reduceCtorEq]
   have h40:1*40≤2 ^ 47:=by decide
   have hw:l9 .i64 (P6 ((1:Nat):Int) 1)=((0:Nat):Int):=rfl
   simp +contextual -implicitDefEqProofs only [G3,SS,rA,rS,rL,rE,reduceCtorEq,h40,hw]
   have h3:(st3++[Cb.Obj.cells [.str (m4 (.mk k al nm on as ds sub)),.list true []]])[st3.length]?=some (.cells (k9 []++[AV.str (m4 (.mk k al nm on as ds sub)),AV.list true []])):=F5 _ _
   have hA3:(st3++[Cb.Obj.cells [.str (m4 (.mk k al nm on as ds sub)),.list true []]])[ao]?=some (.cells (j6 F)):=l6 hA2
   have hl3:(st3++[Cb.Obj.cells [AV.str (m4 (.mk k al nm on as ds sub)),AV.list true []]]).length=st3.length+1:=by simp
   have hold3:∀ (j:Nat) (x:Cb.Obj),j < st1.length→st1[j]?=some x→(st3++[Cb.Obj.cells [AV.str (m4 (.mk k al nm on as ds sub)),AV.list true []]])[j]?=some x:=fun j x hj hx=>l6 (hiv.old j x hj hx)
   revert h3 hA3 hl3 hold3
   generalize st3++[Cb.Obj.cells [.str (m4 (.mk k al nm on as ds sub)),.list true []]]=st4
   intro h3 hA3 hl3 hold3
   have e36:=fun (call:b6) (n:Nat)=>c7v (v0:=.ptr mo 0) (v1:=.agg [.list false K.ops,.list false (K.frags.map Frag.row)]) (v2:=.str K.typ) (v3:=.list false (l.map Sel.row)) (v4:=.agg [.int .u8 K.vk,.int .i64 K.vn,.str K.vs,.list false (K.vks.map b9),.list false (K.vls.map Val.row)]) (v5:=.box [.list false K.ops,.list false (K.frags.map Frag.row)]) (v6:=.box [.int .u8 K.vk,.int .i64 K.vn,.str K.vs,.list false (K.vks.map b9),.list false (K.vls.map Val.row)]) (v7:=.nils) (v12:=.int .i64 0) k al nm on (as.map Arg.row) (ds.map Dir.row) (sub.map Sel.row) hA3 hil hrl h3 (n:=1) (j:=0) (by omega) (by omega) rfl call n
   have hG4:=GrpT.new (N:=st1.length) (gs:=[]) (k:=k) (al:=al) (nm:=nm) (on:=on) (as:=as) (ds:=ds) (sub:=sub) hN2 h3 (by simp) (by simp) (by omega)
   simp only [e36]
   simp +contextual -implicitDefEqProofs only [K16,SS,rA,rS,rL,rE,reduceCtorEq,hi1]
   refine WC.next (m':=F.length - (i+1)) (by omega) ⟨i+1,_,_,_,_,hmem,rfl,⟨hG4,?_,fun j x hj hx=>?_,?_⟩,rfl⟩
   · rw [htk,← hiv.pr]; rfl
   · exact l6 (g9 (hold3 j x hj hx) (by omega))
   · show st1.length≤(st4.set _ _++[_]).length
     rw [List.length_append,List.length_set]; omega
 -- some already
 have hpi:pI (fun g:Grp=>eqN g.key (m4 (.mk k al nm on as ds sub))) (gs.take 0)=none:=rfl
 have hol:o < st2.length:=(List.getElem?_eq_some_iff.1 ho).1
 refine WC.loopR (fun mm fr st'=>st'=st2∧∃ (q:Nat),q≤gs.length∧mm=gs.length - q∧fr=[.ptr mo 0,.agg [.list false K.ops,.list false (K.frags.map Frag.row)],.str K.typ,.list false (l.map Sel.row),.agg [.int .u8 K.vk,.int .i64 K.vn,.str K.vs,.list false (K.vks.map b9),.list false (K.vls.map Val.row)],.box [.list false K.ops,.list false (K.frags.map Frag.row)],.box [.int .u8 K.vk,.int .i64 K.vn,.str K.vs,.list false (K.vks.map b9),.list false (K.vls.map Val.row)],.nils,.sl ao 0 F.length 7,.sl o 0 gs.length 2,.int .i64 i,.int .i64 (nI (pI (fun g:Grp=>eqN g.key (m4 (.mk k al nm on as ds sub))) (gs.take q))),.int .i64 q]) (m:=gs.length) ⟨rfl,0,Nat.zero_le _,rfl,rfl⟩ ?_
 rintro mm fr st3 ⟨rfl,q,hq,rfl,rfl⟩
 simp +contextual -implicitDefEqProofs only [G3,SS,rA,rS,rL,rE,reduceCtorEq]
 by_cases hql:q < gs.length
 · have hd:=L1 gs q
   have hqt:gs.take (q+1)=gs.take q++[gs[q]]:=by rw [List.take_add_one,List.getElem?_eq_getElem hql]; rfl
   have hone:=c3j (kp:=m4 (.mk k al nm on as ds sub)) hkn hql
   have hql':(q:Int) < (gs.length:Int):=by omega
   have htl:(gs.take q).length=q:=by rw [List.length_take]; omega
   have hps:=b2H (fun g:Grp=>eqN g.key (m4 (.mk k al nm on as ds sub))) gs[q] (gs.take q)
   rw [← hqt] at hps
   rw [List.drop_eq_getElem_cons hql,w9] at hd
   have hkp:kept st3 st3 [AV.sl o 0 gs.length 2]=true:=by
    simp only [kept,M6,ho,Bool.and_true]
    rw [X8]
   revert hd hps hone
   generalize gs[q]=x
   intro hd hone hps
   obtain ⟨xk,xo,xf⟩:=x
   dsimp only at hps hone
   simp +contextual -implicitDefEqProofs only [G3,SS,rA,rS,rL,rE,reduceCtorEq,hql,hql',ho,hd,M8,Nat.beq_refl,hlt,hA2,Nat.zero_add,hrl,h7]
   refine WC.callA (hkq _) rfl rfl ?_
   rintro _ st4 ⟨rfl,rfl⟩
   refine ⟨hkp,?_⟩
   simp +contextual -implicitDefEqProofs only [G3,SS,rA,rS,rL,rE,reduceCtorEq]
   refine WC.br (fun hx=>?_) (fun hx=>?_)
   · rw [hone hx] at hps
     have hps:pI (fun g:Grp=>eqN g.key (m4 (.mk k al nm on as ds sub))) (gs.take (q+1))=some q:=by rw [hps]; dsimp only; rw [if_pos hx,htl]
     simp +contextual -implicitDefEqProofs only [G3,SS,rA,rS,rL,rE,reduceCtorEq,l5 (show q+1 < 2 ^ 63 by omega)]
     exact WC.next (m':=gs.length - (q+1)) (by omega) ⟨rfl,q+1,hql,rfl,by rw [hps]; rfl⟩
   · have hps:pI (fun g:Grp=>eqN g.key (m4 (.mk k al nm on as ds sub))) (gs.take (q+1))=pI (fun g:Grp=>eqN g.key (m4 (.mk k al nm on as ds sub))) (gs.take q):=by
      rw [hps]
      cases pI (fun g:Grp=>eqN g.key (m4 (.mk k al nm on as ds sub))) (gs.take q) with
      | some j=>rfl
      | none=>dsimp only; rw [if_neg (by rw [hx]; decide)]
     simp +contextual -implicitDefEqProofs only [G3,SS,rA,rS,rL,rE,reduceCtorEq,l5 (show q+1 < 2 ^ 63 by omega)]
     exact WC.next (m':=gs.length - (q+1)) (by omega) ⟨rfl,q+1,hql,rfl,by rw [hps]⟩
 · have hqe:gs.take q=gs:=List.take_of_length_le (by omega)
   rw [hqe]
   simp +contextual -implicitDefEqProofs only [G3,SS,rA,rS,rL,rE,reduceCtorEq,hql]
   refine WC.leave ?_
   cases hp:pI (fun g:Grp=>eqN g.key (m4 (.mk k al nm on as ds sub))) gs with
   | none =>
    simp +contextual -implicitDefEqProofs only [G3,SS,rA,rS,rL,rE,reduceCtorEq,nI,show ltI (-1) 0=true from rfl,hlt,hA2,Nat.zero_add,hrl,h7]
    refine WC.call (hkq _) rfl rfl ?_
    rintro _ st4 ⟨rfl,rfl⟩
    have h40:(gs.length+1)*40≤2 ^ 47:=by omega
    have hw:l9 .i64 (P6 ((gs.length+1:Nat):Int) 1)=(gs.length:Int):=by rw [subI_eq,J0 (by omega) (by omega)]; omega
    simp +contextual -implicitDefEqProofs only [G3,SS,rA,rS,rL,rE,reduceCtorEq,h40,hw,ho,C3]
    have h3:(st4.set o .dead++[Cb.Obj.cells (k9 gs++[AV.str (m4 (.mk k al nm on as ds sub)),AV.list true []])])[st4.length]?=some (.cells (k9 gs++[AV.str (m4 (.mk k al nm on as ds sub)),AV.list true []])):=by
     have:=F5 (st4.set o .dead) (Cb.Obj.cells (k9 gs++[AV.str (m4 (.mk k al nm on as ds sub)),AV.list true []]))
     rwa [List.length_set] at this
    have hA3:(st4.set o .dead++[Cb.Obj.cells (k9 gs++[AV.str (m4 (.mk k al nm on as ds sub)),AV.list true []])])[ao]?=some (.cells (j6 F)):=l6 (g9 hA2 (by omega))
    have hl3:(st4.set o .dead++[Cb.Obj.cells (k9 gs++[AV.str (m4 (.mk k al nm on as ds sub)),AV.list true []])]).length=st4.length+1:=by simp
    have hold3:∀ (j:Nat) (x:Cb.Obj),j < st1.length→st1[j]?=some x→(st4.set o .dead++[Cb.Obj.cells (k9 gs++[AV.str (m4 (.mk k al nm on as ds sub)),AV.list true []])])[j]?=some x:=fun j x hj hx=>l6 (g9 (hiv.old j x hj hx) (by omega))
    have hfs3:∀ g∈gs,st1.length≤g.fo∧g.fo≠st4.length∧(st4.set o .dead++[Cb.Obj.cells (k9 gs++[AV.str (m4 (.mk k al nm on as ds sub)),AV.list true []])])[g.fo]?=some (.cells (j6 g.fs)):=fun g hg=>by
     obtain ⟨g1,g2⟩:=hiv.grp.fs g hg
     have g3:=(List.getElem?_eq_some_iff.1 g2).1
     exact ⟨g1,by omega,l6 (g9 g2 (fun e=>hof g hg e.symm))⟩
    revert h3 hA3 hl3 hold3 hfs3
    generalize st4.set o .dead++[Cb.Obj.cells (k9 gs++[AV.str (m4 (.mk k al nm on as ds sub)),AV.list true []])]=st5
    intro h3 hA3 hl3 hold3 hfs3
    have hG5:(k9 gs++[AV.str (m4 (.mk k al nm on as ds sub)),AV.list true []])[gs.length*2+1]?=some (AV.list true []):=by
     rw [List.getElem?_append_right (by rw [C3]; omega),C3,show gs.length*2+1 - gs.length*2=1 by omega]; rfl
    have e36:=fun (call:b6) (n:Nat) (v12:AV)=>c7v (v0:=.ptr mo 0) (v1:=.agg [.list false K.ops,.list false (K.frags.map Frag.row)]) (v2:=.str K.typ) (v3:=.list false (l.map Sel.row)) (v4:=.agg [.int .u8 K.vk,.int .i64 K.vn,.str K.vs,.list false (K.vks.map b9),.list false (K.vls.map Val.row)]) (v5:=.box [.list false K.ops,.list false (K.frags.map Frag.row)]) (v6:=.box [.int .u8 K.vk,.int .i64 K.vn,.str K.vs,.list false (K.vks.map b9),.list false (K.vls.map Val.row)]) (v7:=.nils) (v12:=v12) k al nm on (as.map Arg.row) (ds.map Dir.row) (sub.map Sel.row) hA3 hil hrl h3 (n:=gs.length+1) (j:=gs.length) (by omega) (by omega) hG5 call n
    have hG4:=GrpT.new (N:=st1.length) (gs:=gs) (k:=k) (al:=al) (nm:=nm) (on:=on) (as:=as) (ds:=ds) (sub:=sub) (by omega) h3 hfs3 hiv.grp.nd (by omega)
    simp only [e36]
    simp +contextual -implicitDefEqProofs only [K16,SS,rA,rS,rL,rE,reduceCtorEq,hi1]
    refine WC.next (m':=F.length - (i+1)) (by omega) ⟨i+1,_,_,_,_,hmem,rfl,⟨hG4,?_,fun j x hj hx=>?_,?_⟩,rfl⟩
    · rw [htk,← hiv.pr,List.map_append,a2q gs _ hp]; rfl
    · exact l6 (g9 (hold3 j x hj hx) (by omega))
    · show st1.length≤(st5.set _ _++[_]).length
      rw [List.length_append,List.length_set]; omega
   | some j =>
    obtain ⟨g,hg,hgk,hjl⟩:=K6 hp
    have ej:ltI (j:Int) 0=false:=by rw [ltI_eq]; simp
    have hgm:=List.mem_of_getElem? hg
    obtain ⟨hcf,hX⟩:=hiv.grp.fs g hgm
    have hG5:(k9 gs)[j*2+1]?=some (AV.sl g.fo 0 g.fs.length 7):=by
     have:=L1 gs j
     rw [List.drop_eq_getElem_cons hjl,show gs[j]=g from (List.getElem?_eq_some_iff.1 hg).2,w9] at this
     have h2:=congrArg (fun l=>l[1]?) this
     simpa using h2
    have hgf:g.fs.length≤9000:=by
     have h1:=(a1L (F.take i)).2 g.pr (by rw [← hiv.pr]; exact List.mem_map_of_mem hgm)
     have e:g.pr.2.length=g.fs.length:=rfl
     rw [List.length_take] at h1
     omega
    have e36:=fun (call:b6) (n:Nat) (v12:AV)=>d7X (v0:=.ptr mo 0) (v1:=.agg [.list false K.ops,.list false (K.frags.map Frag.row)]) (v2:=.str K.typ) (v3:=.list false (l.map Sel.row)) (v4:=.agg [.int .u8 K.vk,.int .i64 K.vn,.str K.vs,.list false (K.vks.map b9),.list false (K.vls.map Val.row)]) (v5:=.box [.list false K.ops,.list false (K.frags.map Frag.row)]) (v6:=.box [.int .u8 K.vk,.int .i64 K.vn,.str K.vs,.list false (K.vks.map b9),.list false (K.vls.map Val.row)]) (v7:=.nils) (v12:=v12) k al nm on (as.map Arg.row) (ds.map Dir.row) (sub.map Sel.row) hA2 hil hrl ho (n:=gs.length) (j:=j) hjl (by omega) hG5 hX (hof g hgm) (by omega) (by rw [a5p]) (by omega) call n
    have hG4:=GrpT.more (N:=st1.length) (k:=k) (al:=al) (nm:=nm) (on:=on) (as:=as) (ds:=ds) (sub:=sub) hiv.grp hg hN2
    simp +contextual -implicitDefEqProofs only [G3,SS,rA,rS,rL,rE,reduceCtorEq,nI,ej]
    simp only [e36]
    simp +contextual -implicitDefEqProofs only [K16,SS,rA,rS,rL,rE,reduceCtorEq,hi1]
    refine WC.next (m':=F.length - (i+1)) (by omega) ⟨i+1,_,_,_,_,hmem,rfl,⟨hG4,?_,fun j x hj hx=>?_,?_⟩,rfl⟩
    · rw [htk,← hiv.pr]
      exact (a2d gs _ j _ g hp hg).symm
    · exact l6 (g9 (g9 (hiv.old j x hj hx) (by omega)) (by omega))
    · show st1.length≤((st3.set _ _).set _ _++[_]).length
      rw [List.length_append,List.length_set,List.length_set]; omega
end Go.Cb.CodeA
