import Derived.Test.YtbibkdncfclnbaaGreatDoorC2
set_option maxRecDepth 20000
set_option linter.unusedSimpArgs false
set_option linter.unusedVariables false
namespace Go.Cb.CodeA
open Go Go.Cb
open Nat renaming reduceAdd→rA,reduceSub→rS,reduceLeDiff→rL,reduceEqDiff→rE
attribute [local congr] i7 j1 j2 j3 j0 i8 k6 j9 V.runR_congr
def B2:Sel→List Nat
 | .mk _ al nm _ _ _ _=>if eqN al [] then nm else al
def F5:List (List Nat×List Sel)→Sel→List (List Nat×List Sel)
 | [],x=>[(B2 x,[x])]
 | g::gs,x=>if eqN g.1 (B2 x) then (g.1,g.2++[x])::gs else g::F5 gs x
def G5 (F:List Sel):List (List Nat×List Sel):=F.foldl F5 []
theorem a3z (F:List Sel) (x:Sel):G5 (F++[x])=F5 (G5 F) x:=by rw [G5,List.foldl_append]; rfl
structure Grp where
 key:List Nat
 fo:Nat
 fs:List Sel
def Grp.pr (g:Grp):List Nat×List Sel:=(g.key,g.fs)
def s5 (gs:List Grp):List AV:=gs.flatMap fun g=>[.str g.key,.sl g.fo 0 g.fs.length 7]
theorem F9 (g:Grp) (gs:List Grp):s5 (g::gs)=.str g.key::.sl g.fo 0 g.fs.length 7::s5 gs:=rfl
theorem b5z (a b:List Grp):s5 (a++b)=s5 a++s5 b:=by simp [s5]
theorem X3 (gs:List Grp):(s5 gs).length=gs.length*2:=by
 induction gs with
 | nil=>rfl
 | cons g gs ih=>rw [F9,AX,AX,ih,AX]; omega
theorem a1Q (gs:List Grp):∀ i,(s5 gs).drop (i*2)=s5 (gs.drop i):=by
 induction gs with
 | nil=>intro i; simp [s5]
 | cons g gs ih =>
  intro i
  cases i with
  | zero=>rfl
  | succ i=>rw [show (i+1)*2=i*2+1+1 by omega,F9,List.drop_succ_cons,List.drop_succ_cons,ih]; rfl
theorem b6c (gs:List Grp):∀ (i:Nat) (g g':Grp),gs[i]?=some g→g'.key=g.key→s5 (gs.set i g')=(s5 gs).set (i*2+1) (.sl g'.fo 0 g'.fs.length 7):=by
 induction gs with
 | nil=>intro i g g' h; simp at h
 | cons x gs ih =>
  intro i g g' h hk
  cases i with
  | zero =>
   simp at h; subst h
   rw [List.set_cons_zero,F9,F9,hk]
   rfl
  | succ i =>
   rw [List.set_cons_succ,F9,F9,show (i+1)*2+1=(i*2+1)+1+1 by omega,List.set_cons_succ,List.set_cons_succ,ih i g g' (by simpa using h) hk]
def o9 (fs:List Sel):List AV:=fs.flatMap Sel.row
theorem b6j (fs:List Sel):(o9 fs).length=fs.length*7:=by
 induction fs with
 | nil=>rfl
 | cons g gs ih=>rw [o9,List.flatMap_cons,AE,Sel.row_len]; rw [o9] at ih; rw [ih,AX]; omega
theorem b3n (fs:List Sel) (s:Sel):o9 (fs++[s])=o9 fs++s.row:=by simp [o9]
structure GrpS (c:Nat) (st:St) (out:AV) (gs:List Grp):Prop where
 out:(gs=[]∧out=.list true [])∨∃ o,out=.sl o 0 gs.length 2∧c < o∧st[o]?=some (.cells (s5 gs))∧∀ g∈gs,g.fo≠o
 fs:∀ g∈gs,c < g.fo∧st[g.fo]?=some (.cells (o9 g.fs))
 nd:(gs.map Grp.fo).Nodup
theorem GrpS.ext {c:Nat} {st st':St} {out:AV} {gs:List Grp} (h:GrpS c st out gs) (hg:∀ i x,c < i→st[i]?=some x→st'[i]?=some x):GrpS c st' out gs:=by
 refine ⟨?_,fun g hm=>⟨(h.fs g hm).1,hg _ _ (h.fs g hm).1 (h.fs g hm).2⟩,h.nd⟩
 rcases h.out with h1|⟨o,h1,h2,h3,h4⟩
 · exact Or.inl h1
 · exact Or.inr ⟨o,h1,h2,hg _ _ h2 h3,h4⟩
theorem b0x:∀ (gs:List Grp) (s:Sel),pI (fun g:Grp=>eqN g.key (B2 s)) gs=none→F5 (gs.map Grp.pr) s=gs.map Grp.pr++[(B2 s,[s])]
 | [],s,_=>rfl
 | g::gs,s,h=>by
  rw [T8] at h
  by_cases hx:eqN g.key (B2 s)=true
  · rw [if_pos hx] at h; cases h
  · rw [if_neg hx] at h
    have hq:pI (fun g:Grp=>eqN g.key (B2 s)) gs=none:=by cases hq:pI (fun g:Grp=>eqN g.key (B2 s)) gs with|none=>rfl|some j=>rw [hq] at h; cases h
    rw [AG,F5,if_neg (by exact hx),b0x gs s hq]; rfl
theorem a9S:∀ (gs:List Grp) (s:Sel) (i fo:Nat) (g:Grp),pI (fun g:Grp=>eqN g.key (B2 s)) gs=some i→gs[i]?=some g→F5 (gs.map Grp.pr) s=(gs.set i ⟨g.key,fo,g.fs++[s]⟩).map Grp.pr
 | [],s,_,_,_,h,_=>by cases h
 | x::gs,s,i,fo,g,h,hi=>by
  rw [T8] at h
  by_cases hx:eqN x.key (B2 s)=true
  · rw [if_pos hx] at h; cases h
    simp at hi; subst hi
    rw [AG,F5,if_pos (by exact hx)]; rfl
  · rw [if_neg hx] at h
    cases hq:pI (fun g:Grp=>eqN g.key (B2 s)) gs with
    | none=>rw [hq] at h; cases h
    | some j =>
     rw [hq] at h; cases h
     rw [AG,F5,if_neg (by exact hx),a9S gs s j fo g hq (by simpa using hi)]; rfl
theorem b9C (f:AV) (st:St) (hf:f.plain=true) (hw:f.weak=f):EvQ tbl 189 [.list false [],f] st (fun a st'=>st'=st∧a=.int .i64 (-1)):=by
 refine EvQ.body (fn:=a189) rfl rfl rfl ?_
 simp +contextual -implicitDefEqProofs only [a0u,SS,rA,rS,rL,rE,reduceCtorEq]
 refine WC.loopR (fun mm fr st'=>st'=st∧fr=[.list false [],f,.int .i64 0,.undef,.int .i64 0,.int .i64 0]) (m:=0) ⟨rfl,rfl⟩ ?_
 rintro mm fr st' ⟨rfl,rfl⟩
 simp +contextual -implicitDefEqProofs only [a0u,SS,rA,rS,rL,rE,reduceCtorEq,show ltI 0 0=false from rfl]
 refine WC.leave ?_
 simp +contextual -implicitDefEqProofs only [a0u,SS,rA,rS,rL,rE,reduceCtorEq]
 exact WC.ret ⟨_,_,rfl,rfl,rfl⟩
theorem c7M (key kp:List Nat) (F:AV) (hF:∃ o n,F=.sl o 0 n 7) (p:Nat) (st:St) (hp:st[p]?=some (.cells [.str kp])):EvQ tbl 190 [.agg [.str key,F],.ptr p 0] st (fun a st'=>st'=st∧a=.bool (eqN key kp)):=by
 obtain ⟨o,n,rfl⟩:=hF
 refine EvQ.body (fn:=a190) rfl rfl rfl ?_
 simp +contextual -implicitDefEqProofs only [d4O,SS,rA,rS,rL,rE,reduceCtorEq,hp]
 exact WC.ret ⟨_,_,rfl,rfl,rfl⟩
theorem b7Q {o p:Nat} (gs:List Grp) (hl:gs.length≤100000000) (kp:List Nat) (st:St) (ho:st[o]?=some (.cells (s5 gs))) (hp:st[p]?=some (.cells [.str kp])) :
 EvQ tbl 189 [.sl o 0 gs.length 2,.func 190 [] [.ptr p 0]] st (fun a st'=>st'=st∧a=.int .i64 (nI (pI (fun g:Grp=>eqN g.key kp) gs))):=by
 refine EvQ.body (fn:=a189) rfl rfl rfl ?_
 simp +contextual -implicitDefEqProofs only [a0u,SS,rA,rS,rL,rE,reduceCtorEq]
 refine WC.loopR (fun mm fr st'=>st'=st∧∃ (i:Nat) (v3:AV),i≤gs.length∧mm=gs.length - i∧pI (fun g:Grp=>eqN g.key kp) gs=(pI (fun g:Grp=>eqN g.key kp) (gs.drop i)).map (fun j=>j+i)∧fr=[.sl o 0 gs.length 2,.func 190 [] [.ptr p 0],.int .i64 0,v3,.int .i64 gs.length,.int .i64 i]) (m:=gs.length) ⟨rfl,0,_,Nat.zero_le _,rfl,by simp,rfl⟩ ?_
 rintro mm fr st' ⟨rfl,i,v3,hi,rfl,hidx,rfl⟩
 simp +contextual -implicitDefEqProofs only [a0u,SS,rA,rS,rL,rE,reduceCtorEq]
 by_cases hil:i < gs.length
 · have hd:=a1Q gs i
   have hil':(i:Int) < (gs.length:Int):=by omega
   rw [List.drop_eq_getElem_cons hil,T8] at hidx
   rw [List.drop_eq_getElem_cons hil,F9] at hd
   revert hidx hd
   generalize gs[i]=x
   intro hidx hd
   obtain ⟨xk,xo,xf⟩:=x
   dsimp only at hidx hd
   simp +contextual -implicitDefEqProofs only [a0u,SS,rA,rS,rL,rE,reduceCtorEq,hil,hil',ho,hd]
   refine WC.callV (c7M xk kp (.sl xo 0 xf.length 7) ⟨_,_,rfl⟩ p st' hp) rfl rfl ?_
   rintro _ st2 ⟨rfl,rfl⟩
   simp +contextual -implicitDefEqProofs only [a0u,SS,rA,rS,rL,rE,reduceCtorEq]
   refine WC.br (fun hx=>?_) (fun hx=>?_)
   · simp +contextual -implicitDefEqProofs only [a0u,SS,rA,rS,rL,rE,reduceCtorEq]
     refine WC.leaveR ?_
     simp +contextual -implicitDefEqProofs only [a0u,SS,rA,rS,rL,rE,reduceCtorEq]
     refine WC.ret ⟨_,_,rfl,rfl,?_⟩
     rw [hidx,if_pos hx]
     show _=AV.int .i64 ((0+i:Nat):Int)
     rw [Nat.zero_add]; rfl
   · simp +contextual -implicitDefEqProofs only [a0u,SS,rA,rS,rL,rE,reduceCtorEq,s9 (show i+1 < 2 ^ 63 by omega)]
     refine WC.next (m':=gs.length - (i+1)) (by omega) ⟨rfl,i+1,_,hil,rfl,?_,rfl⟩
     rw [hidx,if_neg (by rw [hx]; decide),Option.map_map]
     congr 1
     funext j
     show j+1+i=j+(i+1)
     omega
 · simp +contextual -implicitDefEqProofs only [a0u,SS,rA,rS,rL,rE,reduceCtorEq,hil]
   refine WC.leave ?_
   simp +contextual -implicitDefEqProofs only [a0u,SS,rA,rS,rL,rE,reduceCtorEq]
   refine WC.ret ⟨_,_,rfl,rfl,?_⟩
   rw [hidx,List.drop_of_length_le (by omega)]
   rfl
theorem N6 (st:St) (y z:Cb.Obj):(st++[y]).set st.length z=st++[z]:=by
 rw [List.set_append_right _ _ (AJ _),Nat.sub_self]; rfl
theorem b6D {l:List Nat} {i n:Nat} (h:l.Nodup) (hn:n ∉ l):(l.set i n).Nodup:=by
 induction l generalizing i with
 | nil=>simp
 | cons a l ih =>
  rw [List.nodup_cons] at h
  rw [List.mem_cons,not_or] at hn
  cases i with
  | zero=>rw [List.set_cons_zero,List.nodup_cons]; exact ⟨hn.2,h.2⟩
  | succ i =>
   rw [List.set_cons_succ,List.nodup_cons]
   refine ⟨fun hm=>?_,ih h.2 hn.2⟩
   rcases List.mem_or_eq_of_mem_set hm with h1|h1
   · exact h.1 h1
   · exact hn.1 h1.symm
theorem d1r {c:Nat} {st:St} {out:AV} {gs:List Grp} (h:GrpS c st out gs) {g:Grp} (hg:g∈gs):g.fo < st.length:=(AB.1 (h.fs g hg).2).1
def a7X (K:Cfg) (c:Nat) (sn:AV) (gs:List Grp) (s:Sel) (st:St) (st':St):Prop:=∃ out' gs',st'[c]?=some (.cells (s7 K sn out'))∧GrpS c st' out' gs'∧gs'.map Grp.pr=F5 (gs.map Grp.pr) s∧(∀ i x,i < c→st[i]?=some x→st'[i]?=some x)∧st.length≤st'.length
theorem c5T {K:Cfg} {c o p:Nat} {sn v5 v6 v7:AV} {gs:List Grp} {s:Sel} {key:List Nat} {st st2:St} {k:Int} {al nm on:List Nat} {as:List Arg} {ds:List Dir} {sub:List Sel} (hs:Sel.mk k al nm on as ds sub=s)
 (hc2:st2[c]?=some (.cells (s7 K sn (.sl o 0 (gs.length+1) 2)))) (hco:c < o) (ho:st2[o]?=some (.cells (s5 gs++[.str key,.list true []]))) (hfs:∀ g∈gs,c < g.fo∧g.fo≠o∧st2[g.fo]?=some (.cells (o9 g.fs))) (hnd:(gs.map Grp.fo).Nodup)
 (hpn:pI (fun g:Grp=>eqN g.key (B2 s)) gs=none) (hkey:key=B2 s) (hfr:∀ i x,i < c→st[i]?=some x→st2[i]?=some x) (hl:st.length≤st2.length) :
 WC (fun n=>i6 (k7 tbl n) n (ACode.either [5,6,7] (a169s18.seq a169s20) a169s23) [.ptr c 0,.agg [.int .u8 k,.str al,.str nm,.str on,.list false (as.map Arg.row),.list false (ds.map Dir.row),.list false (sub.map Sel.row)],.box [.int .u8 k,.str al,.str nm,.str on,.list false (as.map Arg.row),.list false (ds.map Dir.row),.list false (sub.map Sel.row)],.ptr p 0,.int .i64 ((gs.length:Nat):Int),v5,v6,v7] st2) (fun o=>∃ r st',finK [] (some o)=some (r,st')∧a7X K c sn gs s st st'):=by
 have hcl:c < st2.length:=(AB.1 hc2).1
 have hol:o < st2.length:=(AB.1 ho).1
 have hF:(s5 gs++[AV.str key,AV.list true []])[gs.length*2+1]?=some (AV.list true []):=by
  rw [List.getElem?_append_right (by rw [X3]; omega),X3,show gs.length*2+1 - gs.length*2=1 by omega]; rfl
 refine ⟨0,_,fun N _=>c7g (n:=gs.length+1) k al nm on (as.map Arg.row) (ds.map Dir.row) (sub.map Sel.row) hc2 ho (by omega) hF (k7 tbl N) N,_,_,rfl,.sl o 0 (gs.length+1) 2,gs++[⟨key,st2.length,[s]⟩],?_,⟨Or.inr ⟨o,by rw [AE]; rfl,hco,?_,fun g hg=>?_⟩,fun g hg=>?_,?_⟩,?_,fun i x hi hx=>?_,?_⟩
 · exact l5 (k8 hc2 (by omega))
 · unfold stM
   refine (l5 (L7 ho)).trans ?_
   rw [b5z]
   congr 2
   rw [List.set_append_right _ _ (by rw [X3]; omega),X3,show gs.length*2+1 - gs.length*2=1 by omega]
   rfl
 · rcases AP.1 hg with hg|hg
   · exact (hfs g hg).2.1
   · simp at hg; subst hg
     show st2.length≠o
     omega
 · unfold stM
   rcases AP.1 hg with hg|hg
   · obtain ⟨h1,h2,h3⟩:=hfs g hg
     exact ⟨h1,l5 (k8 h3 (by omega))⟩
   · simp at hg; subst hg
     refine ⟨hcl,?_⟩
     show (st2.set o _++[_])[st2.length]?=some (.cells (o9 [s]))
     have:=p8 (st2.set o (Cb.Obj.cells ((s5 gs++[AV.str key,AV.list true []]).set (gs.length*2+1) (.sl st2.length 0 1 7)))) (Cb.Obj.cells [.int .u8 k,.str al,.str nm,.str on,.list false (as.map Arg.row),.list false (ds.map Dir.row),.list false (sub.map Sel.row)])
     rw [AY] at this
     rw [this,← hs]
     simp only [o9,List.flatMap_cons,List.flatMap_nil,List.append_nil,Sel.row_eq]
 · rw [AU,List.nodup_append]
   refine ⟨hnd,by simp,fun a ha b hb=>?_⟩
   simp at hb; subst hb
   obtain ⟨g,hg,rfl⟩:=List.mem_map.1 ha
   have:=(AB.1 (hfs g hg).2.2).1
   omega
 · rw [AU,b0x gs s hpn,hkey]; rfl
 · exact l5 (k8 (hfr i x hi hx) (by omega))
 · show st.length≤(st2.set o _++[_]).length
   rw [AE,AY]; omega
theorem d5w {K:Cfg} {c o p i:Nat} {sn v5 v6 v7:AV} {gs:List Grp} {s:Sel} {st st2:St} {k:Int} {al nm on:List Nat} {as:List Arg} {ds:List Dir} {sub:List Sel} (hs:Sel.mk k al nm on as ds sub=s)
 (hc2:st2[c]?=some (.cells (s7 K sn (.sl o 0 gs.length 2)))) (hG:GrpS c st2 (.sl o 0 gs.length 2) gs) (hi:pI (fun g:Grp=>eqN g.key (B2 s)) gs=some i) (hb:∀ g∈gs,g.fs.length≤90000000) (hfr:∀ i x,i < c→st[i]?=some x→st2[i]?=some x) (hl:st.length≤st2.length) :
 WC (fun n=>i6 (k7 tbl n) n (ACode.either [5,6,7] (a169s18.seq a169s20) a169s23) [.ptr c 0,.agg [.int .u8 k,.str al,.str nm,.str on,.list false (as.map Arg.row),.list false (ds.map Dir.row),.list false (sub.map Sel.row)],.box [.int .u8 k,.str al,.str nm,.str on,.list false (as.map Arg.row),.list false (ds.map Dir.row),.list false (sub.map Sel.row)],.ptr p 0,.int .i64 ((i:Nat):Int),v5,v6,v7] st2) (fun o=>∃ r st',finK [] (some o)=some (r,st')∧a7X K c sn gs s st st'):=by
 have hcl:c < st2.length:=(AB.1 hc2).1
 rcases hG.out with ⟨_,h0⟩|⟨o',h0,hco,ho,hof⟩
 · cases h0
 cases h0
 have hol:o < st2.length:=(AB.1 ho).1
 obtain ⟨g,hg,hk,hil⟩:=J8 hi
 have hgm:=List.mem_of_getElem? hg
 obtain ⟨hcf,hX⟩:=hG.fs g hgm
 have hne:=hof g hgm
 have hF:(s5 gs)[i*2+1]?=some (AV.sl g.fo 0 g.fs.length 7):=by
  have:=a1Q gs i
  rw [List.drop_eq_getElem_cons hil,show gs[i]=g from (AB.1 hg).2,F9] at this
  have h2:=congrArg (fun l=>l[1]?) this
  simpa using h2
 have hset:=b6c gs i g ⟨g.key,st2.length,g.fs++[s]⟩ hg rfl
 have hnl:∀ g'∈gs,g'.fo < st2.length:=fun g' hg'=>(AB.1 (hG.fs g' hg').2).1
 have hother:∀ (j:Nat) (g':Grp),gs[j]?=some g'→j≠i→g'.fo≠g.fo:=by
  intro j g' hj hji he
  have h1:(gs.map Grp.fo)[j]?=some g'.fo:=by rw [AQ,hj]; rfl
  have h2:(gs.map Grp.fo)[i]?=some g.fo:=by rw [AQ,hg]; rfl
  have h3:=(AB.1 h1).1
  exact hji (((List.getElem?_inj h3 hG.nd).1 (by rw [h1,h2,he])))
 refine ⟨0,_,fun N _=>c7u (n:=gs.length) (m:=g.fs.length) k al nm on (as.map Arg.row) (ds.map Dir.row) (sub.map Sel.row) hc2 ho hil hF hX hne (by omega) (by rw [b6j]) (by have:=hb g hgm; omega) (k7 tbl N) N,_,_,rfl,.sl o 0 gs.length 2,gs.set i ⟨g.key,st2.length,g.fs++[s]⟩,?_,⟨Or.inr ⟨o,by rw [AY],hco,?_,fun g' hg'=>?_⟩,fun g' hg'=>?_,?_⟩,?_,fun i x hi hx=>?_,?_⟩
 · exact l5 (k8 (k8 hc2 (by omega)) (by omega))
 · refine (l5 (k8 (L7 ho) hne)).trans ?_
   rw [hset,AE]
   rfl
 · rcases List.mem_or_eq_of_mem_set hg' with h1|h1
   · exact hof g' h1
   · subst h1; show st2.length≠o; omega
 · obtain ⟨j,hj⟩:=List.mem_iff_getElem?.1 hg'
   rw [List.getElem?_set] at hj
   by_cases hji:i=j
   · subst hji
     rw [if_pos rfl,if_pos hil] at hj
     cases hj
     refine ⟨hcl,?_⟩
     have:=p8 ((st2.set o (Cb.Obj.cells ((s5 gs).set (i*2+1) (.sl st2.length 0 (g.fs.length+1) 7)))).set g.fo Cb.Obj.dead) (Cb.Obj.cells (o9 g.fs++[.int .u8 k,.str al,.str nm,.str on,.list false (as.map Arg.row),.list false (ds.map Dir.row),.list false (sub.map Sel.row)]))
     rw [AY,AY] at this
     refine this.trans ?_
     show _=some (Cb.Obj.cells (o9 (g.fs++[s])))
     rw [b3n,← hs,Sel.row_eq]
   · rw [if_neg hji] at hj
     obtain ⟨h1,h2⟩:=hG.fs g' (List.mem_of_getElem? hj)
     exact ⟨h1,l5 (k8 (k8 h2 (fun e=>hof g' (List.mem_of_getElem? hj) e.symm)) (fun e=>hother j g' hj (fun e=>hji e.symm) e.symm))⟩
 · rw [List.map_set]
   refine b6D hG.nd fun hm=>?_
   obtain ⟨g',hg',e⟩:=List.mem_map.1 hm
   have:=hnl g' hg'
   have e:g'.fo=st2.length:=e
   omega
 · exact (a9S gs s i st2.length g hi hg).symm
 · exact l5 (k8 (k8 (hfr i x hi hx) (by omega)) (by omega))
 · show st.length≤((st2.set o _).set g.fo _++[_]).length
   rw [AE,AY,AY]; omega
theorem c3Z {K:Cfg} {c:Nat} {sn out:AV} {gs:List Grp} (s:Sel) {st:St} (h:st[c]?=some (.cells (s7 K sn out))) (hG:GrpS c st out gs) (hb:gs.length≤90000000∧∀ g∈gs,g.fs.length≤90000000) :
 EvQ tbl 169 [.ptr c 0,.agg s.row] st (fun a st'=>a7X K c sn gs s st st'):=by
 obtain ⟨k,al,nm,on,as,ds,sub⟩:=s
 have hS:B2 (.mk k al nm on as ds sub)=if eqN al [] then nm else al:=rfl
 revert hS
 generalize hs:Sel.mk k al nm on as ds sub=s
 intro hS
 have hrow:s.row=[.int .u8 k,.str al,.str nm,.str on,.list false (as.map Arg.row),.list false (ds.map Dir.row),.list false (sub.map Sel.row)]:=by rw [← hs,Sel.row_eq]
 rw [hrow]
 -- behind the name
 have main:∀ (key:List Nat),key=B2 s→WC (fun n=>i6 (k7 tbl n) n (a169s9.seq (a169s16.seq a169s24)) [.ptr c 0,.agg [.int .u8 k,.str al,.str nm,.str on,.list false (as.map Arg.row),.list false (ds.map Dir.row),.list false (sub.map Sel.row)],.box [.int .u8 k,.str al,.str nm,.str on,.list false (as.map Arg.row),.list false (ds.map Dir.row),.list false (sub.map Sel.row)],.ptr st.length 0,.undef,.undef,.undef,.undef] (st++[.cells [.str key]]))
  (fun o=>∃ r st',finK [] (some o)=some (r,st')∧a7X K c sn gs s st st'):=by
  intro key hkey
  have hcl:c < st.length:=(AB.1 h).1
  have h1:(st++[Cb.Obj.cells [.str key]])[c]?=some (.cells (s7 K sn out)):=l5 h
  have hp:(st++[Cb.Obj.cells [.str key]])[st.length]?=some (.cells [.str key]):=p8 _ _
  have hG1:GrpS c (st++[Cb.Obj.cells [.str key]]) out gs:=hG.ext fun i x _ hx=>l5 hx
  have hfr:∀ (i:Nat) x,i < c→st[i]?=some x→(st++[Cb.Obj.cells [.str key]])[i]?=some x:=fun i x _ hx=>l5 hx
  have hl1:(st++[Cb.Obj.cells [.str key]]).length=st.length+1:=by simp
  revert h1 hp hG1 hfr hl1
  generalize st++[Cb.Obj.cells [.str key]]=st1
  intro h1 hp hG1 hfr hl1
  have hcl1:c < st1.length:=by omega
  have hcs:∀ y:Cb.Obj,(st1.set c y)[c]?=some y:=fun y=>L7 h1
  have hpc:∀ y:Cb.Obj,(st1.set c y)[st.length]?=some (.cells [.str key]):=fun y=>k8 hp (by omega)
  rcases hG1.out with ⟨rfl,rfl⟩|⟨o,rfl,hco,ho,hof⟩
  · -- the first group
    have h140:1*40≤2 ^ 47:=by decide
    have h2:∀ a b,(st1.set c a++[b])[c]?=some a:=fun a b=>l5 (hcs a)
    have h3:∀ a b z,((st1.set c a++[b]).set c z)[c]?=some z:=fun a b z=>L7 (h2 a b)
    simp +contextual -implicitDefEqProofs only [W6,SS,rA,rS,rL,rE,reduceCtorEq,h1,s7]
    refine WC.call (b9C (.func 190 [] [.ptr st.length 0]) _ rfl rfl) rfl rfl ?_
    rintro _ st1 ⟨rfl,rfl⟩
    simp +contextual -implicitDefEqProofs only [W6,SS,rA,rS,rL,rE,reduceCtorEq,h1,hcs,hpc,s7,show ltI (-1) 0=true from rfl,hp,h140,h2,h3,AY,show m5 .i64 (a5z ((1:Nat):Int) 1)=((0:Nat):Int) from rfl]
    refine c5T (gs:=[]) (key:=key) (o:=st1.length) hs ?_ ?_ ?_ (by simp) (by simp) rfl hkey ?_ ?_
    · exact h3 _ _ _
    · exact hcl1
    · exact (k8 (by have:=p8 (st1.set c (.cells (s7 K sn (.list false [])))) (.cells [.str key,.list true []]); rw [AY] at this; exact this) (by omega))
    · intro i x hi hx
      exact k8 (l5 (k8 (hfr i x hi hx) (by omega))) (by omega)
    · rw [AY,AE,AY]; omega
  · have hlen:=hb.1
    simp +contextual -implicitDefEqProofs only [W6,SS,rA,rS,rL,rE,reduceCtorEq,h1,s7]
    refine WC.call (b7Q gs (by omega) key _ ho hp) rfl rfl ?_
    rintro _ st1 ⟨rfl,rfl⟩
    rw [hkey]
    cases hq:pI (fun g:Grp=>eqN g.key (B2 s)) gs with
    | none =>
     have hol:o < st1.length:=(AB.1 ho).1
     have ho2:∀ y:Cb.Obj,(st1.set c y)[o]?=some (.cells (s5 gs)):=fun y=>k8 ho (by omega)
     have hb40:(gs.length+1)*40≤2 ^ 47:=by omega
     have h2:∀ a b x,((st1.set c a).set o x++[b])[c]?=some a:=fun a b x=>l5 (k8 (hcs a) (by omega))
     have h3:∀ a b x z,(((st1.set c a).set o x++[b]).set c z)[c]?=some z:=fun a b x z=>L7 (h2 a b x)
     have hw:m5 .i64 (a5z ((gs.length+1:Nat):Int) 1)=(gs.length:Int):=by rw [subI_eq,a2n (by omega) (by omega)]; omega
     simp +contextual -implicitDefEqProofs only [W6,SS,rA,rS,rL,rE,reduceCtorEq,h1,hcs,hpc,s7,nI,show ltI (-1) 0=true from rfl,hp,ho2,X3,hb40,h2,h3,AY,hw]
     refine c5T (gs:=gs) (key:=key) (o:=st1.length) hs ?_ ?_ ?_ (fun g hg=>?_) hG1.nd hq hkey ?_ ?_
     · exact h3 _ _ _ _
     · exact hcl1
     · exact (k8 (by have:=p8 ((st1.set c (.cells (s7 K sn (.sl o 0 gs.length 2)))).set o .dead) (.cells (s5 gs++[.str key,.list true []])); rw [AY,AY] at this; exact this) (by omega))
     · obtain ⟨g1,g2⟩:=hG1.fs g hg
       have:=d1r hG1 hg
       have:=hof g hg
       exact ⟨g1,by omega,k8 (l5 (k8 (k8 g2 (by omega)) (by omega))) (by omega)⟩
     · intro i x hi hx
       exact k8 (l5 (k8 (k8 (hfr i x hi hx) (by omega)) (by omega))) (by omega)
     · rw [AY,AE,AY,AY]; omega
    | some i =>
     have ei:ltI (i:Int) 0=false:=by rw [ltI_eq]; simp
     simp +contextual -implicitDefEqProofs only [W6,SS,rA,rS,rL,rE,reduceCtorEq,nI,ei]
     exact d5w hs h1 hG1 hq hb.2 hfr (by omega)
 refine EvQ.body (fn:=a169) rfl rfl rfl ?_
 have hn:=p8 st
 simp +contextual -implicitDefEqProofs only [W6,SS,rA,rS,rL,rE,reduceCtorEq,hn,N6]
 refine WC.br (fun hx=>?_) (fun hx=>?_)
 · simp +contextual -implicitDefEqProofs only [W6,SS,rA,rS,rL,rE,reduceCtorEq,hn,N6]
   have:=main al (by rw [hS,if_neg (by intro h0; rw [h0] at hx; cases hx)])
   simp +contextual -implicitDefEqProofs only [W6,SS,rA,rS,rL,rE,reduceCtorEq] at this ⊢
   exact this
 · simp +contextual -implicitDefEqProofs only [W6,SS,rA,rS,rL,rE,reduceCtorEq,hn,N6]
   have:=main nm (by rw [hS,if_pos (by simpa using hx)])
   simp +contextual -implicitDefEqProofs only [W6,SS,rA,rS,rL,rE,reduceCtorEq] at this ⊢
   exact this
end Go.Cb.CodeA
