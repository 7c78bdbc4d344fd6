/- What functions of the abstract machine answer. No conditions but those that each theorem names. -/
import Derived.Test.YthnliekianmljaaGreatDoorR4
set_option maxRecDepth 20000
set_option linter.unusedSimpArgs false
set_option linter.unusedVariables false
namespace Go.Cb.CodeA
open Go Go.Cb
open Nat renaming reduceAdd → rA,reduceSub → rS,reduceLeDiff → rL,reduceEqDiff → rE
attribute [local congr] i8 k4 k6 k7 j4 j3 l8 l7 V.runR_congr

theorem FRun.inv {K:Cfg} {k:Int} {al nm on:List Nat} {as:List Arg} {ds:List Dir} {sub:List Sel} {l:List Sel} {s s2:List (List Nat)} {F:List Sel} (h:FRun K (.mk k al nm on as ds sub::l) s F s2) :
 (z6 K ds=false∧FRun K l s F s2)∨(z6 K ds=true∧((eqI k 1=true∧∃ F',F=.mk k al nm on as ds sub::F'∧FRun K l s F' s2) ∨
  (eqI k 1=false∧eqI k 2=true∧(((pI (fun f:Frag=>eqN f.n nm) K.frags=.none∨o9 s nm=true)∧FRun K l s F s2)∨∃ i f,pI (fun f:Frag=>eqN f.n nm) K.frags=some i∧K.frags[i]?=some f∧o9 s nm=false ∧
   ((isB K f.on=false∧FRun K l (s++[nm]) F s2)∨(isB K f.on=true∧∃ F1 s1 F',F=F1++F'∧FRun K f.sub (s++[nm]) F1 s1∧FRun K l s1 F' s2)))) ∨
  (eqI k 1=false∧eqI k 2=false∧(((eqN on [] || isB K on)=false∧FRun K l s F s2)∨((eqN on [] || isB K on)=true∧∃ F1 s1 F',F=F1++F'∧FRun K sub s F1 s1∧FRun K l s1 F' s2))))):=by
 cases h with
 | skipC a h=>exact Or.inl ⟨a,h⟩
 | fieldC a b h=>exact Or.inr ⟨a,Or.inl ⟨b,_,rfl,h⟩⟩
 | noneC a b c d h=>exact Or.inr ⟨a,Or.inr (Or.inl ⟨b,c,Or.inl ⟨d,h⟩⟩)⟩
 | otherC a b c d e f g h=>exact Or.inr ⟨a,Or.inr (Or.inl ⟨b,c,Or.inr ⟨_,_,d,e,f,Or.inl ⟨g,h⟩⟩⟩)⟩
 | spreadC a b c d e f g h h2=>exact Or.inr ⟨a,Or.inr (Or.inl ⟨b,c,Or.inr ⟨_,_,d,e,f,Or.inr ⟨g,_,_,_,rfl,h,h2⟩⟩⟩)⟩
 | inNoC a b c d h=>exact Or.inr ⟨a,Or.inr (Or.inr ⟨b,c,Or.inl ⟨d,h⟩⟩)⟩
 | inlC a b c d h h2=>exact Or.inr ⟨a,Or.inr (Or.inr ⟨b,c,Or.inr ⟨d,_,_,_,rfl,h,h2⟩⟩)⟩
structure FlIv (K:Cfg) (T:List TD) (mo n0 M:Nat) (l:List Sel) (s':List (List Nat)) (F0 F:List Sel) (st0:St) (i:Nat) (a b:AV) (st:St):Prop where
 hi:i≤l.length
 run:∃ Fi F2 si,F=Fi++F2∧FRun K (l.drop i) si F2 s'∧OutH n0 (F0++Fi) a st∧SeenH n0 si b st∧m3 (l.drop i)+m2 K.frags si≤M∧si.length+m2 K.frags si≤9000
 pres:Pres n0 st0 st
 sch:Sch9 T mo st
theorem a4w {T:List TD} {mo n0:Nat} {st st':St} (hmo:mo < n0) (h:Sch9 T mo st) (hp:Pres n0 st st'):Sch9 T mo st':=h.gr fun x hx=>hp.2 mo x hmo hx
theorem c7Z {K:Cfg} (hK:K.OK) {T:List TD} (hiB:∀ n,isB K n=(eqN n K.typ || o9 (O9 T n) K.typ)) (hpl:∀ n,(O9 T n).length≤10000) (hKd:∀ f∈K.frags,∀ x∈f.sub,x.Kd) {mo n0:Nat} (hmo:mo < n0) :
 ∀ (M:Nat) (l:List Sel) (s:List (List Nat)) (F:List Sel) (s':List (List Nat)) (F0:List Sel) (a b:AV) (st:St),FRun K l s F s'→m3 l+m2 K.frags s≤M→(l.length≤9000∧∀ x∈l,x.OK)→(∀ x∈l,x.Kd)→Sch9 T mo st→n0≤st.length→OutH n0 F0 a st→SeenH n0 s b st→F0.length+F.length≤9000→s.length+m2 K.frags s≤9000 →
 EvQ tbl 36 [.ptr mo 0,.agg [.list false K.ops,.list false (K.frags.map Frag.row)],.str K.typ,.list false (l.map Sel.row),.agg K.varRow,a,b] st (fun r st'=>∃ a' b',r=.tuple [a',b']∧OutH n0 (F0++F) a' st'∧SeenH n0 s' b' st'∧Pres n0 st st'):=by
 intro M
 induction M using Nat.strongRecOn with
 | ind M IH =>
 intro l s F s' F0 a b st hrun hM hl hkd hsch hn ha hb hF hs
 have hll:=hl.1
 have pa:=ha.pln
 have pb:=hb.pln
 refine EvQ.body (fn:=a36) rfl rfl rfl ?_
 simp +contextual -implicitDefEqProofs only [K36,SS,rA,rS,rL,rE,reduceCtorEq,pa.st,pa.sb,pa.wk,pb.st,pb.sb,pb.wk,Cfg.varRow]
 refine WC.loopR (fun mm fr st'=>∃ (i:Nat) (a b v12 v13 v14 v15 v16:AV),FlIv K T mo n0 M l s' F0 F st i a b st'∧mm=l.length - i∧fr=[.ptr mo 0,.agg [.list false K.ops,.list false (K.frags.map Frag.row)],.str K.typ,.list false (l.map Sel.row),.agg [.int .u8 K.vk,.int .i64 K.vn,.str K.vs,.list false (K.vks.map b9),.list false (K.vls.map Val.row)],a,b,.box [.list false K.ops,.list false (K.frags.map Frag.row)],.box [.int .u8 K.vk,.int .i64 K.vn,.str K.vs,.list false (K.vks.map b9),.list false (K.vls.map Val.row)],.nils,.nils,.int .i64 i,v12,v13,v14,v15,v16]) (m:=l.length) ⟨0,a,b,_,_,_,_,_,⟨Nat.zero_le _,⟨[],F,s,rfl,by rw [List.drop_zero]; exact hrun,by rw [List.append_nil]; exact ha,hb,by rw [List.drop_zero]; exact hM,hs⟩,⟨hn,fun _ _ _ h=>h⟩,hsch⟩,rfl,rfl⟩ ?_
 clear pa pb ha hb hs hsch hn hrun hM
 rintro mm fr st' ⟨i,a,b,v12,v13,v14,v15,v16,hiv,rfl,rfl⟩
 obtain ⟨Fi,F2,si,hFF,hr,ha,hb,hM,hs⟩:=hiv.run
 have hsch:=hiv.sch
 have hpres:=hiv.pres
 have pa:=ha.pln
 have pb:=hb.pln
 have hi:=hiv.hi
 clear hiv
 have call36:∀ {h:List Sel} (_:h.length≤9000∧∀ x∈h,x.OK) (_:∀ x∈h,x.Kd) {s2 s1:List (List Nat)} {F1 F':List Sel} {b2:AV} {st2:St} (_:m3 h+m2 K.frags s2 < M) (_:F2=F1++F') (_:OutH n0 (F0++Fi) a st2) (_:SeenH n0 s2 b2 st2) (_:Pres n0 st' st2) (_:s2.length+m2 K.frags s2≤9000) (_:FRun K h s2 F1 s1),
  EvQ tbl 36 [.ptr mo 0,.agg [.list false K.ops,.list false (K.frags.map Frag.row)],.str K.typ,.list false (h.map Sel.row),.agg [.int .u8 K.vk,.int .i64 K.vn,.str K.vs,.list false (K.vks.map b9),.list false (K.vls.map Val.row)],a,b2] st2 (fun r st3=>∃ a' b',r=.tuple [a',b']∧OutH n0 (F0++Fi++F1) a' st3∧SeenH n0 s1 b' st3∧Pres n0 st2 st3):=by
  intro h hho hhk s2 s1 F1 F' b2 st2 hm e ha2 hb2 hp2 hs2 hrn
  have:=IH _ hm h s2 F1 s1 (F0++Fi) a b2 st2 hrn (Nat.le_refl _) hho hhk (a4w hmo hsch hp2) hp2.1 ha2 hb2 (by rw [hFF,e,List.length_append,List.length_append] at hF; rw [List.length_append]; omega) hs2
  unfold Cfg.varRow at this
  exact this
 simp +contextual -implicitDefEqProofs only [K36,SS,rA,rS,rL,rE,reduceCtorEq,List.length_map]
 by_cases hil:i < l.length
 rotate_left
 · simp +contextual -implicitDefEqProofs only [K36,SS,rA,rS,rL,rE,reduceCtorEq,hil]
   refine WC.leave ?_
   rw [List.drop_of_length_le (by omega)] at hr
   cases hr
   simp +contextual -implicitDefEqProofs only [K36,SS,rA,rS,rL,rE,reduceCtorEq,pa.st,pa.sb,pa.wk,pb.st,pb.sb,pb.wk]
   refine WC.ret ⟨_,_,rfl,a,b,?_,by rw [hFF,List.append_nil]; exact ha,hb,hpres⟩
   show AV.tuple [a.weak,b.weak]=_
   rw [pa.wk,pb.wk]
 have e2:(l.map Sel.row)[i]?=some (l[i]).row:=by rw [List.getElem?_map,List.getElem?_eq_getElem hil]; rfl
 have hok:=hl.2 _ (List.getElem_mem hil)
 have hk3:=hkd _ (List.getElem_mem hil)
 rw [List.drop_eq_getElem_cons hil] at hr hM
 rw [x9] at hM
 have nxt:∀ {Fi' F2':List Sel} {si':List (List Nat)} {a' b' v12 v13 v14 v15 v16:AV} {st2:St},F=Fi'++F2'→FRun K (l.drop (i+1)) si' F2' s'→OutH n0 (F0++Fi') a' st2→SeenH n0 si' b' st2→m3 (l.drop (i+1))+m2 K.frags si'≤M→si'.length+m2 K.frags si'≤9000→Pres n0 st' st2 →
  ∃ (i':Nat) (a b w12 w13 w14 w15 w16:AV),FlIv K T mo n0 M l s' F0 F st i' a b st2∧l.length - (i+1)=l.length - i'∧[.ptr mo 0,.agg [.list false K.ops,.list false (K.frags.map Frag.row)],.str K.typ,.list false (l.map Sel.row),.agg [.int .u8 K.vk,.int .i64 K.vn,.str K.vs,.list false (K.vks.map b9),.list false (K.vls.map Val.row)],a',b',.box [.list false K.ops,.list false (K.frags.map Frag.row)],.box [.int .u8 K.vk,.int .i64 K.vn,.str K.vs,.list false (K.vks.map b9),.list false (K.vls.map Val.row)],.nils,.nils,.int .i64 ((i+1:Nat):Int),v12,v13,v14,v15,v16]=[.ptr mo 0,.agg [.list false K.ops,.list false (K.frags.map Frag.row)],.str K.typ,.list false (l.map Sel.row),.agg [.int .u8 K.vk,.int .i64 K.vn,.str K.vs,.list false (K.vks.map b9),.list false (K.vls.map Val.row)],a,b,.box [.list false K.ops,.list false (K.frags.map Frag.row)],.box [.int .u8 K.vk,.int .i64 K.vn,.str K.vs,.list false (K.vks.map b9),.list false (K.vls.map Val.row)],.nils,.nils,.int .i64 i',w12,w13,w14,w15,w16] :=
  fun h1 h2 h3 h4 h5 h6 h7=>⟨i+1,_,_,_,_,_,_,_,⟨hil,⟨_,_,_,h1,h2,h3,h4,h5,h6⟩,hpres.trans h7,a4w hmo hsch h7⟩,rfl,rfl⟩
 have pr0:Pres n0 st' st':=⟨hpres.1,fun _ _ _ h=>h⟩
 have hi1:=l5 (show i+1 < 2 ^ 63 by omega)
 revert e2 hok hk3 hr hM nxt
 generalize l.drop (i+1)=rest
 generalize l[i]=x
 intro hM hr e2 hok hk3 nxt
 cases hok with
 | mk k al nm on as ds sub hao hdo hsl hsub =>
 cases hk3 with
 | mk _ _ _ _ _ _ _ hk hsk =>
 rw [Sel.row_eq] at e2
 rw [P1] at hM
 simp +contextual -implicitDefEqProofs only [K36,SS,rA,rS,rL,rE,reduceCtorEq,hil,e2]
 have hcq:=b7l hK k al nm on as ds sub hdo st'
 unfold Cfg.varRow at hcq
 refine WC.call hcq rfl rfl ?_
 rintro _ st' ⟨rfl,rfl⟩
 simp +contextual -implicitDefEqProofs only [K36,SS,rA,rS,rL,rE,reduceCtorEq]
 refine WC.br (fun hw=>?_) (fun hw=>?_)
 · have hw:z6 K ds=false:=by simpa using hw
   have hinv:=hr.inv
   clear hr
   rcases hinv with ⟨_,hr⟩|⟨h,_⟩
   · simp +contextual -implicitDefEqProofs only [K36,SS,rA,rS,rL,rE,reduceCtorEq,hi1]
     exact WC.next (m':=l.length - (i+1)) (by omega) (nxt hFF hr ha hb (by omega) hs pr0)
   · rw [hw] at h; cases h
 have hw:z6 K ds=true:=by simpa using hw
 have hinv:=hr.inv
 clear hr
 rcases hinv with ⟨h,_⟩|⟨_,hr⟩
 · rw [hw] at h; cases h
 simp +contextual -implicitDefEqProofs only [K36,SS,rA,rS,rL,rE,reduceCtorEq]
 refine WC.br (fun hk1=>?_) (fun hk1=>?_)
 · -- a field
   rcases hr with ⟨_,F2',rfl,hr⟩|⟨h,_⟩|⟨h,_⟩
   · have hFl:(F0++Fi).length≤1000000:=by rw [hFF,List.length_append] at hF; rw [List.length_append]; omega
     obtain ⟨a',st2,h1,ha',hb',pa',hp'⟩:=OutH.push ha hb (.mk k al nm on as ds sub) hFl hpres.1
     simp only [Sel.row_eq] at h1
     simp +contextual -implicitDefEqProofs only [K36,SS,rA,rS,rL,rE,reduceCtorEq,h1,pa.st,pa.sb,pa.wk,pa'.st,pa'.sb,pa'.wk,hi1]
     refine WC.next (m':=l.length - (i+1)) (by omega) (nxt (Fi':=Fi++[.mk k al nm on as ds sub]) (by rw [hFF]; simp) hr (by rw [← List.append_assoc]; exact ha') hb' (by omega) hs hp')
   · rw [show eqI k 1=true from hk1] at h; cases h
   · rw [show eqI k 1=true from hk1] at h; cases h
 have hk1:eqI k 1=false:=hk1
 rcases hr with ⟨h,_⟩|hr
 · rw [hk1] at h; cases h
 simp +contextual -implicitDefEqProofs only [K36,SS,rA,rS,rL,rE,reduceCtorEq]
 refine WC.br (fun hk2=>?_) (fun hk2=>?_)
 · -- a fragment
   have hk2:eqI k 2=true:=hk2
   rcases hr with ⟨_,_,hr⟩|⟨_,h,_⟩
   rotate_left
   · rw [hk2] at h; cases h
   simp +contextual -implicitDefEqProofs only [K36,SS,rA,rS,rL,rE,reduceCtorEq,pb.st,pb.sb,pb.wk]
   refine WC.call (c6W hb (by omega) nm) (by simp only [R.allPlain_c,R.allPlain_n,pb.pl,R.plain_str]; rfl) (by simp only [List.map_cons,List.map_nil,pb.wk]; rfl) ?_
   rintro _ st' ⟨rfl,rfl⟩
   simp +contextual -implicitDefEqProofs only [K36,SS,rA,rS,rL,rE,reduceCtorEq]
   refine WC.br (fun hh=>?_) (fun hh=>?_)
   · have hh:o9 si nm=true:=hh
     rcases hr with ⟨_,hr⟩|⟨_,_,_,_,h,_⟩
     · simp +contextual -implicitDefEqProofs only [K36,SS,rA,rS,rL,rE,reduceCtorEq,hi1]
       exact WC.next (m':=l.length - (i+1)) (by omega) (nxt hFF hr ha hb (by omega) hs pr0)
     · rw [hh] at h; cases h
   have hh:o9 si nm=false:=hh
   have hfl:=hK.frags.1
   simp +contextual -implicitDefEqProofs only [K36,SS,rA,rS,rL,rE,reduceCtorEq,List.length_map,a0t K.frags.length (by omega)]
   refine WC.loopR (fun mm fr st2=>st2=st'∧∃ (m:Nat),m≤K.frags.length∧mm=m∧fr=[.ptr mo 0,.agg [.list false K.ops,.list false (K.frags.map Frag.row)],.str K.typ,.list false (l.map Sel.row),.agg [.int .u8 K.vk,.int .i64 K.vn,.str K.vs,.list false (K.vks.map b9),.list false (K.vls.map Val.row)],a,b,.box [.list false K.ops,.list false (K.frags.map Frag.row)],.box [.int .u8 K.vk,.int .i64 K.vn,.str K.vs,.list false (K.vks.map b9),.list false (K.vls.map Val.row)],.nils,.nils,.int .i64 i,.box [.int .u8 k,.str al,.str nm,.str on,.list false (as.map Arg.row),.list false (ds.map Dir.row),.list false (sub.map Sel.row)],.str (((fF (K.frags.drop m) nm).map Frag.on).getD on),.list false ((((fF (K.frags.drop m) nm).map Frag.sub).getD sub).map Sel.row),.bool (fF (K.frags.drop m) nm).isSome,.int .i64 ((m:Int) - 1)]) (m:=K.frags.length) ⟨rfl,K.frags.length,Nat.le_refl _,rfl,by rw [List.drop_length]; rfl⟩ ?_
   rintro mm fr st2 ⟨rfl,m,hm,rfl,rfl⟩
   simp +contextual -implicitDefEqProofs only [K36,SS,rA,rS,rL,rE,reduceCtorEq,c7o]
   cases mm with
   | succ m =>
    have e3:(K.frags.map Frag.row)[m]?=some (K.frags[m]).row:=by rw [List.getElem?_map,List.getElem?_eq_getElem hm]; rfl
    have hdr:fF (K.frags.drop m) nm=fF (K.frags[m]::K.frags.drop (m+1)) nm:=by rw [← List.drop_eq_getElem_cons hm]
    rw [b2d] at hdr
    revert e3 hdr
    generalize K.frags[m]=f
    intro e3 hdr
    obtain ⟨gn,gon,gsub⟩:=f
    have e3:(K.frags.map Frag.row)[m]?=some [.str gn,.str gon,.list false (gsub.map Sel.row)]:=e3
    simp +contextual -implicitDefEqProofs only [K36,SS,rA,rS,rL,rE,reduceCtorEq,show (decide (0 < m+1))=true from by simp,a3h,e3]
    refine WC.br (fun hx=>?_) (fun hx=>?_)
    · rw [if_pos hx] at hdr
      simp +contextual -implicitDefEqProofs only [K36,SS,rA,rS,rL,rE,reduceCtorEq,a3h,e3,a0t m (by omega)]
      exact WC.next (m':=m) (by omega) ⟨rfl,m,by omega,rfl,by rw [hdr]; rfl⟩
    · rw [if_neg (by rw [show eqN gn nm=false from hx]; decide)] at hdr
      simp +contextual -implicitDefEqProofs only [K36,SS,rA,rS,rL,rE,reduceCtorEq,a3h,a0t m (by omega)]
      exact WC.next (m':=m) (by omega) ⟨rfl,m,by omega,rfl,by rw [hdr]⟩
   | zero =>
    simp +contextual -implicitDefEqProofs only [K36,SS,rA,rS,rL,rE,reduceCtorEq,show (decide (0 < 0))=false from rfl,List.drop_zero]
    refine WC.leave ?_
    rw [b9E]
    rcases hr with ⟨hr,hr2⟩|⟨q,f,hq,hf,_,hr⟩
    · have hq:pI (fun f:Frag=>eqN f.n nm) K.frags=none:=by
       rcases hr with h|h
       · exact h
       · rw [hh] at h; cases h
      rw [hq]
      simp +contextual -implicitDefEqProofs only [K36,SS,rA,rS,rL,rE,reduceCtorEq,Option.bind_none,Option.map_none,Option.getD_none,Option.isSome_none,hi1]
      exact WC.next (m':=l.length - (i+1)) (by omega) (nxt hFF hr2 ha hb (by omega) hs pr0)
    · obtain ⟨f',hf',hfn,hql⟩:=K6 hq
      rw [hf] at hf'
      cases hf'
      have hun:=R8 si nm hh K.frags q f hf hfn
      obtain ⟨b',st2,h1,ha',hb',pb',hp'⟩:=SeenH.push ha hb nm (by omega) hpres.1
      have hsch':=a4w hmo hsch hp'
      have hfo:=hK.frags.2 f (List.mem_of_getElem? hf)
      have hfk:=hKd f (List.mem_of_getElem? hf)
      rw [hq]
      have hb2:=hiB f.on
      have hpo:=b1U hsch' f.on
      have hpl2:=hpl f.on
      have hk3:eqI k 3=false:=by
       rw [eqI_eq] at hk2 ⊢
       have:=of_decide_eq_true hk2
       exact decide_eq_false (by omega)
      have hn1:(si++[nm]).length+m2 K.frags (si++[nm])≤9000:=by rw [List.length_append]; simp; omega
      obtain ⟨gn,gon,gsub⟩:=f
      dsimp only at hb2 hun hfo hfk hr hpo hpl2
      rcases k8 (eqN gon K.typ) with ht|ht
      · rw [ht,Bool.true_or] at hb2
        rcases hr with ⟨h,_⟩|⟨_,F1,s1,F',rfl,hrn,hr2⟩
        · rw [hb2] at h; cases h
        obtain ⟨z1,z2⟩:=hrn.size
        simp +contextual -implicitDefEqProofs only [K36,SS,rA,rS,rL,rE,reduceCtorEq,Option.bind_some,hf,Option.map_some,Option.getD_some,Option.isSome_some,hi1,h1,pa.st,pa.sb,pa.wk,pb.st,pb.sb,pb.wk,pb'.st,pb'.sb,pb'.wk,ht]
        refine WC.call (call36 ⟨by have:=hfo.1; omega,hfo.2⟩ hfk (by omega) rfl ha' hb' hp' hn1 hrn) (by simp only [R.allPlain_c,R.allPlain_n,pa.pl,pb'.pl,R.plain_str,R.plain_ptr,R.plain_agg,R.plain_list]; rfl) (by simp only [List.map_cons,List.map_nil,pa.wk,pb'.wk]; rfl) ?_
        rintro _ st3 ⟨a3,b3,rfl,hO,hS,hP⟩
        have pa3:=hO.pln
        have pb3:=hS.pln
        simp +contextual -implicitDefEqProofs only [K36,SS,rA,rS,rL,rE,reduceCtorEq,pa3.st,pa3.sb,pa3.wk,pb3.st,pb3.sb,pb3.wk,hi1]
        exact WC.next (m':=l.length - (i+1)) (by omega) (nxt (Fi':=Fi++F1) (by rw [hFF,List.append_assoc]) hr2 (by rw [← List.append_assoc]; exact hO) hS (by omega) (by omega) (hp'.trans hP))

      simp +contextual -implicitDefEqProofs only [K36,SS,rA,rS,rL,rE,reduceCtorEq,Option.bind_some,hf,Option.map_some,Option.getD_some,Option.isSome_some,hi1,h1,pb.st,pb.sb,pb.wk,pb'.st,pb'.sb,pb'.wk,ht]
      refine WC.call hpo rfl rfl ?_
      rintro _ st2 ⟨rfl,rfl⟩
      simp +contextual -implicitDefEqProofs only [K36,SS,rA,rS,rL,rE,reduceCtorEq]
      refine WC.call (b35 _ hpl2 K.typ _) rfl rfl ?_
      rintro _ st2 ⟨rfl,rfl⟩
      rw [ht,Bool.false_or] at hb2
      rcases k8 (o9 (O9 T gon) K.typ) with hq2|hq2
      · rcases hr with ⟨h,_⟩|⟨_,F1,s1,F',rfl,hrn,hr2⟩
        · rw [hb2,hq2] at h; cases h
        obtain ⟨z1,z2⟩:=hrn.size
        simp +contextual -implicitDefEqProofs only [K36,SS,rA,rS,rL,rE,reduceCtorEq,hq2,pa.st,pa.sb,pa.wk,pb.st,pb.sb,pb.wk,pb'.st,pb'.sb,pb'.wk]
        refine WC.call (call36 ⟨by have:=hfo.1; omega,hfo.2⟩ hfk (by omega) rfl ha' hb' hp' hn1 hrn) (by simp only [R.allPlain_c,R.allPlain_n,pa.pl,pb'.pl,R.plain_str,R.plain_ptr,R.plain_agg,R.plain_list]; rfl) (by simp only [List.map_cons,List.map_nil,pa.wk,pb'.wk]; rfl) ?_
        rintro _ st3 ⟨a3,b3,rfl,hO,hS,hP⟩
        have pa3:=hO.pln
        have pb3:=hS.pln
        simp +contextual -implicitDefEqProofs only [K36,SS,rA,rS,rL,rE,reduceCtorEq,pa3.st,pa3.sb,pa3.wk,pb3.st,pb3.sb,pb3.wk,hi1]
        exact WC.next (m':=l.length - (i+1)) (by omega) (nxt (Fi':=Fi++F1) (by rw [hFF,List.append_assoc]) hr2 (by rw [← List.append_assoc]; exact hO) hS (by omega) (by omega) (hp'.trans hP))
      rcases hr with ⟨_,hr2⟩|⟨h,_⟩
      rotate_left
      · rw [hb2,hq2] at h; cases h
      rcases k8 (eqN gon []) with he|he
      · simp +contextual -implicitDefEqProofs only [K36,SS,rA,rS,rL,rE,reduceCtorEq,hq2,he,hk3,hi1]
        exact WC.next (m':=l.length - (i+1)) (by omega) (nxt hFF hr2 ha' hb' (by omega) hn1 hp')
      · simp +contextual -implicitDefEqProofs only [K36,SS,rA,rS,rL,rE,reduceCtorEq,hq2,he,hi1]
        exact WC.next (m':=l.length - (i+1)) (by omega) (nxt hFF hr2 ha' hb' (by omega) hn1 hp')
 -- a fragment that stands there
 have hk2:eqI k 2=false:=hk2
 rcases hr with ⟨_,h,_⟩|⟨_,_,hr⟩
 · rw [hk2] at h; cases h
 have hk3:eqI k 3=true:=by
  rw [eqI_eq] at hk1 hk2 ⊢
  have h1:=of_decide_eq_false hk1
  have h2:=of_decide_eq_false hk2
  exact decide_eq_true (by omega)
 have hb2:=hiB on
 have hpo:=b1U hsch on
 have hpl2:=hpl on
 rcases k8 (eqN on K.typ) with ht|ht
 · rw [ht,Bool.true_or] at hb2
   rcases hr with ⟨h,_⟩|⟨_,F1,s1,F',rfl,hrn,hr2⟩
   · rw [hb2,Bool.or_true] at h; cases h
   obtain ⟨z1,z2⟩:=hrn.size
   simp +contextual -implicitDefEqProofs only [K36,SS,rA,rS,rL,rE,reduceCtorEq,ht,pa.st,pa.sb,pa.wk,pb.st,pb.sb,pb.wk]
   refine WC.call (call36 ⟨by omega,hsub⟩ hsk (by omega) rfl ha hb pr0 hs hrn) (by simp only [R.allPlain_c,R.allPlain_n,pa.pl,pb.pl,R.plain_str,R.plain_ptr,R.plain_agg,R.plain_list]; rfl) (by simp only [List.map_cons,List.map_nil,pa.wk,pb.wk]; rfl) ?_
   rintro _ st3 ⟨a3,b3,rfl,hO,hS,hP⟩
   have pa3:=hO.pln
   have pb3:=hS.pln
   simp +contextual -implicitDefEqProofs only [K36,SS,rA,rS,rL,rE,reduceCtorEq,pa3.st,pa3.sb,pa3.wk,pb3.st,pb3.sb,pb3.wk,hi1]
   exact WC.next (m':=l.length - (i+1)) (by omega) (nxt (Fi':=Fi++F1) (by rw [hFF,List.append_assoc]) hr2 (by rw [← List.append_assoc]; exact hO) hS (by omega) (by omega) (pr0.trans hP))
 simp +contextual -implicitDefEqProofs only [K36,SS,rA,rS,rL,rE,reduceCtorEq,ht,pa.st,pa.sb,pa.wk,pb.st,pb.sb,pb.wk]
 refine WC.call hpo rfl rfl ?_
 rintro _ st2 ⟨rfl,rfl⟩
 simp +contextual -implicitDefEqProofs only [K36,SS,rA,rS,rL,rE,reduceCtorEq]
 refine WC.call (b35 _ hpl2 K.typ _) rfl rfl ?_
 rintro _ st2 ⟨rfl,rfl⟩
 rw [ht,Bool.false_or] at hb2
 rcases k8 (o9 (O9 T on) K.typ) with hq2|hq2
 · rcases hr with ⟨h,_⟩|⟨_,F1,s1,F',rfl,hrn,hr2⟩
   · rw [hb2,hq2,Bool.or_true] at h; cases h
   obtain ⟨z1,z2⟩:=hrn.size
   simp +contextual -implicitDefEqProofs only [K36,SS,rA,rS,rL,rE,reduceCtorEq,hq2,pa.st,pa.sb,pa.wk,pb.st,pb.sb,pb.wk]
   refine WC.call (call36 ⟨by omega,hsub⟩ hsk (by omega) rfl ha hb pr0 hs hrn) (by simp only [R.allPlain_c,R.allPlain_n,pa.pl,pb.pl,R.plain_str,R.plain_ptr,R.plain_agg,R.plain_list]; rfl) (by simp only [List.map_cons,List.map_nil,pa.wk,pb.wk]; rfl) ?_
   rintro _ st3 ⟨a3,b3,rfl,hO,hS,hP⟩
   have pa3:=hO.pln
   have pb3:=hS.pln
   simp +contextual -implicitDefEqProofs only [K36,SS,rA,rS,rL,rE,reduceCtorEq,pa3.st,pa3.sb,pa3.wk,pb3.st,pb3.sb,pb3.wk,hi1]
   exact WC.next (m':=l.length - (i+1)) (by omega) (nxt (Fi':=Fi++F1) (by rw [hFF,List.append_assoc]) hr2 (by rw [← List.append_assoc]; exact hO) hS (by omega) (by omega) (pr0.trans hP))
 rcases k8 (eqN on []) with he|he
 · rcases hr with ⟨h,_⟩|⟨_,F1,s1,F',rfl,hrn,hr2⟩
   · rw [he,Bool.true_or] at h; cases h
   obtain ⟨z1,z2⟩:=hrn.size
   simp +contextual -implicitDefEqProofs only [K36,SS,rA,rS,rL,rE,reduceCtorEq,hq2,he,hk3,pa.st,pa.sb,pa.wk,pb.st,pb.sb,pb.wk]
   refine WC.call (call36 ⟨by omega,hsub⟩ hsk (by omega) rfl ha hb pr0 hs hrn) (by simp only [R.allPlain_c,R.allPlain_n,pa.pl,pb.pl,R.plain_str,R.plain_ptr,R.plain_agg,R.plain_list]; rfl) (by simp only [List.map_cons,List.map_nil,pa.wk,pb.wk]; rfl) ?_
   rintro _ st3 ⟨a3,b3,rfl,hO,hS,hP⟩
   have pa3:=hO.pln
   have pb3:=hS.pln
   simp +contextual -implicitDefEqProofs only [K36,SS,rA,rS,rL,rE,reduceCtorEq,pa3.st,pa3.sb,pa3.wk,pb3.st,pb3.sb,pb3.wk,hi1]
   exact WC.next (m':=l.length - (i+1)) (by omega) (nxt (Fi':=Fi++F1) (by rw [hFF,List.append_assoc]) hr2 (by rw [← List.append_assoc]; exact hO) hS (by omega) (by omega) (pr0.trans hP))
 · rcases hr with ⟨_,hr2⟩|⟨h,_⟩
   · simp +contextual -implicitDefEqProofs only [K36,SS,rA,rS,rL,rE,reduceCtorEq,hq2,he,hi1,pa.st,pa.sb,pa.wk,pb.st,pb.sb,pb.wk]
     exact WC.next (m':=l.length - (i+1)) (by omega) (nxt hFF hr2 ha hb (by omega) hs pr0)
   · rw [he,hb2,hq2] at h; cases h
end Go.Cb.CodeA
