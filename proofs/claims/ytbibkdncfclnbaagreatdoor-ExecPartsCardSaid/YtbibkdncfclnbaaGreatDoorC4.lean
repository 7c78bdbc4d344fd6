import Derived.Test.YtbibkdncfclnbaaGreatDoorC3
set_option maxRecDepth 20000
set_option linter.unusedSimpArgs false
set_option linter.unusedVariables false
namespace Go.Cb.CodeA
open Go Go.Cb
open Nat renaming reduceAdd→rA,reduceSub→rS,reduceLeDiff→rL,reduceEqDiff→rE
attribute [local congr] i7 j1 j2 j3 j0 i8 k6 j9 V.runR_congr
mutual
def Sel.size:Sel→Nat
 | .mk _ _ _ _ _ _ sub=>1+sizes sub
def sizes:List Sel→Nat
 | []=>0
 | s::l=>s.size+sizes l
end
def q6:List Frag→List (List Nat)→Nat
 | [],_=>0
 | f::fs,seen=>(if l6 seen f.n then 0 else 1+sizes f.sub)+q6 fs seen
theorem x9 (a b:List Nat):eqN a b=true ↔ a=b:=by rw [a2p]; simp
theorem Q5 (l:List (List Nat)) (n m:List Nat):l6 (l++[n]) m=(l6 l m || eqN m n):=by simp [l6]
theorem b3q (fr:List Frag) (seen:List (List Nat)) (n:List Nat):q6 fr (seen++[n])≤q6 fr seen:=by
 induction fr with
 | nil=>exact AJ _
 | cons f fs ih =>
  simp only [q6,Q5]
  cases l6 seen f.n with
  | true=>simpa using ih
  | false =>
   cases eqN f.n n with
   | true=>simp; omega
   | false=>simp; exact ih
theorem R1 (seen:List (List Nat)) (n:List Nat) (hn:l6 seen n=false):∀ (fr:List Frag) (i:Nat) (f:Frag),fr[i]?=some f→eqN f.n n=true→q6 fr (seen++[n])+1+sizes f.sub≤q6 fr seen
 | [],i,f,h,_=>by simp at h
 | g::fr,0,f,h,he=>by
  simp at h; subst h
  have:=b3q fr seen n
  have e:=(x9 _ _).1 he
  simp only [q6,Q5,he,Bool.or_true,if_true]
  rw [e,hn]
  simp
  omega
 | g::fr,i+1,f,h,he=>by
  have:=R1 seen n hn fr i f (by simpa using h) he
  simp only [q6,Q5]
  cases l6 seen g.n with
  | true=>simp; omega
  | false =>
   cases eqN g.n n with
   | true=>simp; omega
   | false=>simp; omega
inductive FRun (K:Cfg):List Sel→List (List Nat)→List Sel→List (List Nat)→Prop
 | nil (s:List (List Nat)):FRun K [] s [] s
 | skipC {k:Int} {al nm on:List Nat} {as:List Arg} {ds:List Dir} {sub:List Sel} {l:List Sel} {s s2:List (List Nat)} {F:List Sel}:B1 K ds=false→FRun K l s F s2→FRun K (.mk k al nm on as ds sub::l) s F s2
 | fieldC {k:Int} {al nm on:List Nat} {as:List Arg} {ds:List Dir} {sub:List Sel} {l:List Sel} {s s2:List (List Nat)} {F:List Sel}:B1 K ds=true→eqI k 1=true→FRun K l s F s2→FRun K (.mk k al nm on as ds sub::l) s (.mk k al nm on as ds sub::F) s2
 | noneC {k:Int} {al nm on:List Nat} {as:List Arg} {ds:List Dir} {sub:List Sel} {l:List Sel} {s s2:List (List Nat)} {F:List Sel}:B1 K ds=true→eqI k 1=false→eqI k 2=true→(pI (fun f:Frag=>eqN f.n nm) K.frags=.none∨l6 s nm=true)→FRun K l s F s2→FRun K (.mk k al nm on as ds sub::l) s F s2
 | otherC {k:Int} {al nm on:List Nat} {as:List Arg} {ds:List Dir} {sub:List Sel} {l:List Sel} {s s2:List (List Nat)} {F:List Sel} {i:Nat} {f:Frag}:B1 K ds=true→eqI k 1=false→eqI k 2=true→pI (fun f:Frag=>eqN f.n nm) K.frags=some i→K.frags[i]?=some f→l6 s nm=false→isB K f.on=false→FRun K l (s++[nm]) F s2→FRun K (.mk k al nm on as ds sub::l) s F s2
 | spreadC {k:Int} {al nm on:List Nat} {as:List Arg} {ds:List Dir} {sub:List Sel} {l:List Sel} {s s2:List (List Nat)} {F:List Sel} {i:Nat} {f:Frag} {s1:List (List Nat)} {F1:List Sel}:B1 K ds=true→eqI k 1=false→eqI k 2=true→pI (fun f:Frag=>eqN f.n nm) K.frags=some i→K.frags[i]?=some f→l6 s nm=false→isB K f.on=true→FRun K f.sub (s++[nm]) F1 s1→FRun K l s1 F s2→FRun K (.mk k al nm on as ds sub::l) s (F1++F) s2
 | inNoC {k:Int} {al nm on:List Nat} {as:List Arg} {ds:List Dir} {sub:List Sel} {l:List Sel} {s s2:List (List Nat)} {F:List Sel}:B1 K ds=true→eqI k 1=false→eqI k 2=false→(eqN on [] || isB K on)=false→FRun K l s F s2→FRun K (.mk k al nm on as ds sub::l) s F s2
 | inlC {k:Int} {al nm on:List Nat} {as:List Arg} {ds:List Dir} {sub:List Sel} {l:List Sel} {s s2:List (List Nat)} {F:List Sel} {s1:List (List Nat)} {F1:List Sel}:B1 K ds=true→eqI k 1=false→eqI k 2=false→(eqN on [] || isB K on)=true→FRun K sub s F1 s1→FRun K l s1 F s2→FRun K (.mk k al nm on as ds sub::l) s (F1++F) s2
section
variable {K:Cfg} {k:Int} {al nm on:List Nat} {as:List Arg} {ds:List Dir} {sub:List Sel} {s s':List (List Nat)} {F:List Sel} {i:Nat} {f:Frag}
theorem FRun.skip (h:B1 K ds=false):FRun K [.mk k al nm on as ds sub] s [] s:=.skipC h (.nil _)
theorem FRun.field (h:B1 K ds=true) (h1:eqI k 1=true):FRun K [.mk k al nm on as ds sub] s [.mk k al nm on as ds sub] s:=.fieldC h h1 (.nil _)
theorem FRun.none (h:B1 K ds=true) (h1:eqI k 1=false) (h2:eqI k 2=true) (h3:pI (fun f:Frag=>eqN f.n nm) K.frags=.none∨l6 s nm=true):FRun K [.mk k al nm on as ds sub] s [] s:=.noneC h h1 h2 h3 (.nil _)
theorem FRun.other (h:B1 K ds=true) (h1:eqI k 1=false) (h2:eqI k 2=true) (h3:pI (fun f:Frag=>eqN f.n nm) K.frags=some i) (h4:K.frags[i]?=some f) (h5:l6 s nm=false) (h6:isB K f.on=false):FRun K [.mk k al nm on as ds sub] s [] (s++[nm]):=.otherC h h1 h2 h3 h4 h5 h6 (.nil _)
theorem FRun.spread (h:B1 K ds=true) (h1:eqI k 1=false) (h2:eqI k 2=true) (h3:pI (fun f:Frag=>eqN f.n nm) K.frags=some i) (h4:K.frags[i]?=some f) (h5:l6 s nm=false) (h6:isB K f.on=true) (h7:FRun K f.sub (s++[nm]) F s'):FRun K [.mk k al nm on as ds sub] s F s':=by
 have:=FRun.spreadC (al:=al) (on:=on) (as:=as) (sub:=sub) h h1 h2 h3 h4 h5 h6 h7 (.nil _)
 rwa [List.append_nil] at this
theorem FRun.inNo (h:B1 K ds=true) (h1:eqI k 1=false) (h2:eqI k 2=false) (h3:(eqN on [] || isB K on)=false):FRun K [.mk k al nm on as ds sub] s [] s:=.inNoC h h1 h2 h3 (.nil _)
theorem FRun.inl (h:B1 K ds=true) (h1:eqI k 1=false) (h2:eqI k 2=false) (h3:(eqN on [] || isB K on)=true) (h4:FRun K sub s F s'):FRun K [.mk k al nm on as ds sub] s F s':=by
 have:=FRun.inlC (al:=al) (nm:=nm) (as:=as) h h1 h2 h3 h4 (.nil _)
 rwa [List.append_nil] at this
end
theorem FRun.cons {K:Cfg} {x:Sel} {l:List Sel} {s s1 s2:List (List Nat)} {F1 F2:List Sel} (h:FRun K [x] s F1 s1) (h2:FRun K l s1 F2 s2):FRun K (x::l) s (F1++F2) s2:=by
 cases h with
 | skipC a b=>cases b; exact .skipC a h2
 | fieldC a b c=>cases c; exact .fieldC a b h2
 | noneC a b c d e=>cases e; exact .noneC a b c d h2
 | otherC a b c d e f g h=>cases h; exact .otherC a b c d e f g h2
 | spreadC a b c d e f g h i=>cases i; rw [List.append_nil]; exact .spreadC a b c d e f g h h2
 | inNoC a b c d e=>cases e; exact .inNoC a b c d h2
 | inlC a b c d e f=>cases f; rw [List.append_nil]; exact .inlC a b c d e h2
theorem a1w (x:Sel):sizes [x]=x.size:=by simp [sizes]
theorem a0X (k:Int) (al nm on:List Nat) (as:List Arg) (ds:List Dir) (sub:List Sel):(Sel.mk k al nm on as ds sub).size=1+sizes sub:=by rw [Sel.size]
theorem m0 (x:Sel) (l:List Sel):sizes (x::l)=x.size+sizes l:=by rw [sizes]
theorem FRun.size {K:Cfg} {l:List Sel} {s:List (List Nat)} {F:List Sel} {s':List (List Nat)} (h:FRun K l s F s'):F.length+q6 K.frags s'≤sizes l+q6 K.frags s∧s'.length+q6 K.frags s'≤s.length+q6 K.frags s:=by
 induction h with
 | nil s=>simp [sizes]
 | skipC _ _ ih=>rw [m0]; omega
 | fieldC _ _ _ ih=>rw [m0,a0X,AX]; omega
 | noneC _ _ _ _ _ ih=>rw [m0]; omega
 | @otherC k al nm on as ds sub l s s2 F i f _ _ _ hi hf hn _ _ ih =>
  obtain ⟨x,h1,h2,_⟩:=J8 hi
  rw [hf] at h1; cases h1
  have:=R1 s nm hn K.frags i f hf h2
  rw [AE,AX,List.length_nil] at ih
  rw [m0]
  omega
 | @spreadC k al nm on as ds sub l s s2 F i f s1 F1 _ _ _ hi hf hn _ _ _ ih ih2 =>
  obtain ⟨x,h1,h2,_⟩:=J8 hi
  rw [hf] at h1; cases h1
  have:=R1 s nm hn K.frags i f hf h2
  rw [AE,AX,List.length_nil] at ih
  rw [m0,AE]
  omega
 | inNoC _ _ _ _ _ ih=>rw [m0]; omega
 | inlC _ _ _ _ _ _ ih ih2=>rw [m0,a0X,AE]; omega
theorem b9E:∀ (gs:List (List Nat×List Sel)) (x:Sel) (m:Nat),gs.length≤m→(∀ g∈gs,g.2.length≤m)→(F5 gs x).length≤m+1∧∀ g∈F5 gs x,g.2.length≤m+1
 | [],x,m,h1,h2=>by simp [F5]
 | g::gs,x,m,h1,h2=>by
  rw [F5]
  split
  · refine ⟨by simp at h1 ⊢; omega,fun y hy=>?_⟩
    rcases List.mem_cons.1 hy with rfl|hy
    · have:=h2 g (by simp); simp; exact this
    · have:=h2 y (by simp [hy]); omega
  · cases m with
    | zero=>simp at h1
    | succ m =>
     have key:∀ (gs:List (List Nat×List Sel)) (M:Nat),(∀ g∈gs,g.2.length≤M)→∀ g∈F5 gs x,g.2.length≤M+1:=by
      intro gs
      induction gs with
      | nil=>intro M h y hy; simp [F5] at hy; subst hy; simp
      | cons z zs ih =>
       intro M h y hy
       rw [F5] at hy
       split at hy
       · rcases List.mem_cons.1 hy with rfl|hy
         · have:=h z (by simp); simp; exact this
         · have:=h y (by simp [hy]); omega
       · rcases List.mem_cons.1 hy with rfl|hy
         · have:=h y (by simp); omega
         · exact ih M (fun g hg=>h g (by simp [hg])) y hy
     have len:∀ (gs:List (List Nat×List Sel)),(F5 gs x).length≤gs.length+1:=by
      intro gs
      induction gs with
      | nil=>simp [F5]
      | cons z zs ih=>rw [F5]; split <;> simp at ih ⊢; omega
     refine ⟨by have:=len gs; simp at h1 ⊢; omega,fun y hy=>?_⟩
     rcases List.mem_cons.1 hy with rfl|hy
     · have:=h2 y (by simp); omega
     · exact key gs _ (fun g hg=>h2 g (by simp [hg])) y hy
theorem b9B (F:List Sel):(G5 F).length≤F.length∧∀ g∈G5 F,g.2.length≤F.length:=by
 have gen:∀ (F:List Sel) (gs:List (List Nat×List Sel)) (m:Nat),gs.length≤m→(∀ g∈gs,g.2.length≤m)→(F.foldl F5 gs).length≤m+F.length∧∀ g∈F.foldl F5 gs,g.2.length≤m+F.length:=by
  intro F
  induction F with
  | nil=>intro gs m h1 h2; exact ⟨h1,h2⟩
  | cons x F ih =>
   intro gs m h1 h2
   obtain ⟨a,b⟩:=b9E gs x m h1 h2
   have:=ih (F5 gs x) (m+1) a b
   simp only [List.foldl_cons,AX]
   rw [show m+(F.length+1)=m+1+F.length by omega]
   exact this
 have:=gen F [] 0 (by simp) (by simp)
 simpa [G5] using this
structure Col (B:St) (c:Nat) (K:Cfg) (seen:List (List Nat)) (F:List Sel) (st:St):Prop where
 ob:∃ out gs,st[c]?=some (.cells (s7 K (.list true (seen.map e8)) out))∧GrpS c st out gs∧gs.map Grp.pr=G5 F
 gr:∀ i x,i < c→B[i]?=some x→st[i]?=some x
theorem Col.ext {B:St} {c:Nat} {K:Cfg} {seen:List (List Nat)} {F:List Sel} {st st':St} (h:Col B c K seen F st) (hg:Gr st st'):Col B c K seen F st':=by
 obtain ⟨out,gs,h1,h2,h3⟩:=h.ob
 exact ⟨⟨out,gs,hg _ _ h1,h2.ext (fun i x _ hx=>hg _ _ hx),h3⟩,fun i x hi hx=>hg _ _ (h.gr i x hi hx)⟩
theorem Col.field {B:St} {c:Nat} {K:Cfg} {seen:List (List Nat)} {F:List Sel} {st:St} (h:Col B c K seen F st) (hF:F.length≤90000000) (s:Sel):EvQ tbl 169 [.ptr c 0,.agg s.row] st (fun a st'=>Col B c K seen (F++[s]) st'∧st.length≤st'.length):=by
 obtain ⟨out,gs,h1,h2,h3⟩:=h.ob
 obtain ⟨l1,l2⟩:=b9B F
 refine (c3Z s h1 h2 ⟨?_,fun g hg=>?_⟩).mono ?_
 · rw [← h3,AF] at l1; omega
 · have:=l2 g.pr (by rw [← h3]; exact List.mem_map_of_mem hg)
   have e:g.pr.2.length=g.fs.length:=rfl
   omega
 · rintro a st' ⟨out',gs',g1,g2,g3,g4,g5⟩
   exact ⟨⟨⟨out',gs',g1,g2,by rw [g3,h3,a3z]⟩,fun i x hi hx=>g4 i x hi (h.gr i x hi hx)⟩,g5⟩
theorem c3K (f:Frag) (r:List AV) (nm:List Nat) (p:Nat) (st:St) (k:Int) (al:List Nat) (hp:st[p]?=some (.cells (.int .u8 k::.str al::.str nm::r))):EvQ tbl 171 [.agg f.row,.ptr p 0] st (fun a st'=>st'=st∧a=.bool (eqN f.n nm)):=by
 obtain ⟨gn,gon,gsub⟩:=f
 show EvQ tbl 171 [.agg [.str gn,.str gon,.list false (gsub.map Sel.row)],.ptr p 0] st _
 refine EvQ.body (fn:=a171) rfl rfl rfl ?_
 simp +contextual -implicitDefEqProofs only [d4V,SS,rA,rS,rL,rE,reduceCtorEq,hp]
 exact WC.ret ⟨_,_,rfl,rfl,rfl⟩
theorem Col.see {B:St} {c:Nat} {K:Cfg} {seen:List (List Nat)} {F:List Sel} {st:St} (h:Col B c K seen F st) (nm:List Nat):∀ out,st[c]?=some (.cells (s7 K (.list true (seen.map e8)) out))→Col B c K (seen++[nm]) F (st.set c (.cells (s7 K (.list true (seen.map e8++[[.str nm]])) out))):=by
 intro out ho
 obtain ⟨out',gs,h1,h2,h3⟩:=h.ob
 rw [h1] at ho
 have e:out'=out:=by simpa [s7] using ho
 subst e
 refine ⟨⟨out',gs,?_,h2.ext (fun i x hi hx=>k8 hx (by omega)),h3⟩,fun i x hi hx=>k8 (h.gr i x hi hx) (by omega)⟩
 rw [AU]
 exact L7 h1
structure SetIv (B:St) (c:Nat) (K:Cfg) (l:List Sel) (seen:List (List Nat)) (F0:List Sel) (i:Nat) (Fi:List Sel) (si:List (List Nat)) (st:St):Prop where
 hi:i≤l.length
 col:Col B c K si (F0++Fi) st
 run:∀ F2 s2,FRun K (l.drop i) si F2 s2→FRun K l seen (Fi++F2) s2
 sz:Fi.length+sizes (l.drop i)+q6 K.frags si≤sizes l+q6 K.frags seen
 sn:si.length+q6 K.frags si≤seen.length+q6 K.frags seen
theorem SetIv.next {B:St} {c:Nat} {K:Cfg} {l:List Sel} {seen:List (List Nat)} {F0:List Sel} {i:Nat} {Fi:List Sel} {si:List (List Nat)} {st:St} (h:SetIv B c K l seen F0 i Fi si st) (hil:i < l.length) {F1:List Sel} {s1:List (List Nat)} {st':St} (hr:FRun K [l[i]] si F1 s1) (hc:Col B c K s1 (F0++Fi++F1) st'):SetIv B c K l seen F0 (i+1) (Fi++F1) s1 st':=by
 obtain ⟨h1,h2⟩:=hr.size
 have:=h.sz
 rw [a1w] at h1
 refine ⟨hil,by rw [← AW]; exact hc,fun F2 s2 hr2=>?_,by rw [AE]; have:=h.sz; rw [List.drop_eq_getElem_cons hil,m0] at this; omega,by have:=h.sn; omega⟩
 rw [AW]
 exact h.run _ _ (by rw [List.drop_eq_getElem_cons hil]; exact .cons hr hr2)
abbrev c2o (K:Cfg) (B:St) (c:Nat):Prop:=∀ n st',(∀ i x,i < c→B[i]?=some x→st'[i]?=some x)→EvQ tbl 42 [.ptr K.so 0,.str n] st' (fun a s=>s=st'∧a=.list false ((K.poss n).map e8))
theorem c7U {K:Cfg} (hK:K.OK) {B:St} {c:Nat} (hP:c2o K B c):∀ (M:Nat) (l:List Sel) (seen:List (List Nat)) (F0:List Sel) (st:St),sizes l+q6 K.frags seen≤M→(l.length≤90000000∧∀ s∈l,s.OK)→Col B c K seen F0 st→F0.length+sizes l+q6 K.frags seen≤90000000→seen.length+q6 K.frags seen≤90000000 →
 EvQ tbl 131 [.ptr c 0,.list false (l.map Sel.row)] st (fun a st'=>∃ F seen',FRun K l seen F seen'∧Col B c K seen' (F0++F) st'):=by
 intro M
 induction M using Nat.strongRecOn with
 | ind M IH =>
 intro l seen F0 st hM hl hcol hF0 hseen
 have hll:=hl.1
 refine EvQ.body (fn:=a131) rfl rfl rfl ?_
 simp +contextual -implicitDefEqProofs only [F6,SS,rA,rS,rL,rE,reduceCtorEq,AF]
 refine WC.loopR (fun mm fr st'=>∃ (i:Nat) (Fi:List Sel) (si:List (List Nat)) (v2 v3 v7:AV),SetIv B c K l seen F0 i Fi si st'∧mm=l.length - i∧fr=[.ptr c 0,.list false (l.map Sel.row),v2,v3,.list false (l.map Sel.row),.int .i64 l.length,.int .i64 i,v7]) (m:=l.length) ⟨0,[],seen,_,_,_,⟨Nat.zero_le _,by rw [List.append_nil]; exact hcol,fun F2 s2 h=>by rw [List.nil_append]; exact h,by rw [List.drop_zero]; simp,AJ _⟩,rfl,rfl⟩ ?_
 rintro mm fr st' ⟨i,Fi,si,v2,v3,v7,hiv,rfl,rfl⟩
 by_cases hil:i < l.length
 rotate_left
 · simp +contextual -implicitDefEqProofs only [F6,SS,rA,rS,rL,rE,reduceCtorEq,hil]
   refine WC.leave ?_
   simp +contextual -implicitDefEqProofs only [F6,SS,rA,rS,rL,rE,reduceCtorEq]
   refine WC.ret ⟨_,_,rfl,Fi,si,?_,hiv.col⟩
   have:=hiv.run [] si (by rw [List.drop_of_length_le (by omega)]; exact .nil _)
   rwa [List.append_nil] at this
 have e2:(l.map Sel.row)[i]?=some (l[i]).row:=by rw [AQ,AD hil]; rfl
 have hok:=hl.2 _ (List.getElem_mem hil)
 have hnx:∀ {F1:List Sel} {s1:List (List Nat)} {st':St},FRun K [l[i]] si F1 s1→Col B c K s1 (F0++Fi++F1) st'→_:=fun hr hc=>hiv.next hil hr hc
 have hsz:=hiv.sz
 rw [List.drop_eq_getElem_cons hil,m0] at hsz
 have hsn:=hiv.sn
 have hcl:=hiv.col
 clear hiv
 revert e2 hok hnx hsz
 generalize l[i]=x
 intro e2 hok hnx hsz
 have hi1:=s9 (show i+1 < 2 ^ 63 by omega)
 have nxt:∀ {F1:List Sel} {s1:List (List Nat)} {st2:St} {v2 v3 v7:AV},FRun K [x] si F1 s1→Col B c K s1 (F0++Fi++F1) st2→∃ (i':Nat) (Fi:List Sel) (si:List (List Nat)) (w2 w3 w7:AV),SetIv B c K l seen F0 i' Fi si st2∧l.length - (i+1)=l.length - i'∧[.ptr c 0,.list false (l.map Sel.row),v2,v3,.list false (l.map Sel.row),.int .i64 l.length,.int .i64 ((i+1:Nat):Int),v7]=[.ptr c 0,.list false (l.map Sel.row),w2,w3,.list false (l.map Sel.row),.int .i64 l.length,.int .i64 i',w7]:=fun hr hc=>⟨i+1,_,_,_,_,_,hnx hr hc,rfl,rfl⟩
 cases hok with
 | mk k al nm on as ds sub ha hd hsl hsub =>
 rw [Sel.row_eq] at e2
 rw [a0X] at hsz
 -- the loop's variable
 have hcol1:=hcl.ext (Gr.app st' [.cells [.int .u8 k,.str al,.str nm,.str on,.list false (as.map Arg.row),.list false (ds.map Dir.row),.list false (sub.map Sel.row)]])
 have hx1:=p8 st' (.cells [.int .u8 k,.str al,.str nm,.str on,.list false (as.map Arg.row),.list false (ds.map Dir.row),.list false (sub.map Sel.row)])
 have hx0:∀ y,(st'++[y])[st'.length]?=some y:=fun y=>p8 st' y
 simp +contextual -implicitDefEqProofs only [F6,SS,rA,rS,rL,rE,reduceCtorEq,hil,e2,hx0,N6]
 clear hx0
 revert hcol1 hx1
 generalize st'++[Cb.Obj.cells [.int .u8 k,.str al,.str nm,.str on,.list false (as.map Arg.row),.list false (ds.map Dir.row),.list false (sub.map Sel.row)]]=st1
 generalize st'.length=xo
 intro hcol1 hx1
 obtain ⟨out,gs,h1,hG,hgs⟩:=hcol1.ob
 have hwq:=c6P hK (.mk k al nm on as ds sub) (.mk _ _ _ _ _ _ _ ha hd hsl hsub) h1
 rw [Sel.row_eq] at hwq
 refine WC.call hwq rfl rfl ?_
 rintro _ st2 ⟨⟨ob,rfl⟩,rfl⟩
 have hcol2:=hcol1.ext (Gr.app st1 [ob])
 have hx2:(st1++[ob])[xo]?=_:=l5 hx1
 revert hcol2 hx2
 generalize st1++[ob]=st2
 intro hcol2 hx2
 dsimp only
 simp +contextual -implicitDefEqProofs only [F6,SS,rA,rS,rL,rE,reduceCtorEq]
 refine WC.br (fun hw=>?_) (fun hw=>?_)
 · have hw:B1 K ds=false:=by simpa using hw
   simp +contextual -implicitDefEqProofs only [F6,SS,rA,rS,rL,rE,reduceCtorEq,hi1]
   exact WC.next (m':=l.length - (i+1)) (by omega) (nxt (.skip hw) (by rw [List.append_nil]; exact hcol2))
 have hw:B1 K ds=true:=by simpa using hw
 simp +contextual -implicitDefEqProofs only [F6,SS,rA,rS,rL,rE,reduceCtorEq,hx2]
 refine WC.br (fun hk=>?_) (fun hk=>?_)
 · -- a field
   have hfq:=hcol2.field (by rw [AE]; omega) (.mk k al nm on as ds sub)
   rw [Sel.row_eq] at hfq
   simp +contextual -implicitDefEqProofs only [F6,SS,rA,rS,rL,rE,reduceCtorEq,hx2]
   refine WC.call hfq rfl rfl ?_
   rintro _ st3 ⟨hcol3,_⟩
   simp +contextual -implicitDefEqProofs only [F6,SS,rA,rS,rL,rE,reduceCtorEq,hi1]
   exact WC.next (m':=l.length - (i+1)) (by omega) (nxt (.field hw hk) hcol3)
 have hk:eqI k 1=false:=hk
 simp +contextual -implicitDefEqProofs only [F6,SS,rA,rS,rL,rE,reduceCtorEq,hx2]
 refine WC.br (fun hk2=>?_) (fun hk2=>?_)
 · -- a fragment that is spread
   obtain ⟨out2,gs2,h2,hG2,hgs2⟩:=hcol2.ob
   have hfl:=hK.frags.1
   simp +contextual -implicitDefEqProofs only [F6,SS,rA,rS,rL,rE,reduceCtorEq,h2,s7]
   refine WC.call (c1a 171 [.ptr xo 0] rfl (fun f=>eqN f.n nm) K.frags (by omega) st2 (fun f _=>c3K f _ nm xo st2 k al hx2)) rfl rfl ?_
   rintro _ st2 ⟨rfl,rfl⟩
   cases hq:pI (fun f:Frag=>eqN f.n nm) K.frags with
   | none =>
    simp +contextual -implicitDefEqProofs only [F6,SS,rA,rS,rL,rE,reduceCtorEq,nI,show ltI (-1) 0=true from rfl,hi1]
    exact WC.next (m':=l.length - (i+1)) (by omega) (nxt (.none hw hk hk2 (Or.inl hq)) (by rw [List.append_nil]; exact hcol2))
   | some q =>
    obtain ⟨f,hf,hfn,hql⟩:=J8 hq
    have eq0:ltI (q:Int) 0=false:=by rw [ltI_eq]; simp
    have hsl2:si.length≤100000000:=by omega
    simp +contextual -implicitDefEqProofs only [F6,SS,rA,rS,rL,rE,reduceCtorEq,nI,eq0,h2,s7,hx2]
    refine WC.call (I0 si hsl2 nm st2) rfl rfl ?_
    rintro _ st2 ⟨rfl,rfl⟩
    simp +contextual -implicitDefEqProofs only [F6,SS,rA,rS,rL,rE,reduceCtorEq]
    refine WC.br (fun hh=>?_) (fun hh=>?_)
    · simp +contextual -implicitDefEqProofs only [F6,SS,rA,rS,rL,rE,reduceCtorEq,hi1]
      exact WC.next (m':=l.length - (i+1)) (by omega) (nxt (.none hw hk hk2 (Or.inr hh)) (by rw [List.append_nil]; exact hcol2))
    have hh:l6 si nm=false:=hh
    have hun:=R1 si nm hh K.frags q f hf hfn
    have hcol3:=hcol2.see nm out2 h2
    have hcs:∀ y:Cb.Obj,(st2.set c y)[c]?=some y:=fun y=>L7 h2
    have hxc:∀ y:Cb.Obj,(st2.set c y)[xo]?=st2[xo]?:=fun y=>by
     by_cases e:c=xo
     · subst e; rw [h2] at hx2; simp [s7] at hx2
     · exact List.getElem?_set_ne e
    have h16:(si.length+1)*16≤2 ^ 47:=by omega
    have hff:(K.frags.map Frag.row)[q]?=some f.row:=by rw [AQ,hf]; rfl
    have hfm:=hK.frags.2 f (List.mem_of_getElem? hf)
    obtain ⟨gn,gon,gsub⟩:=f
    have hff:(K.frags.map Frag.row)[q]?=some [.str gn,.str gon,.list false (gsub.map Sel.row)]:=hff
    simp +contextual -implicitDefEqProofs only [F6,SS,rA,rS,rL,rE,reduceCtorEq,h2,s7,hcs,hxc,hx2,a2e,AF,h16,List.set_set,hff]
    have h3:(st2.set c (.cells (s7 K (.list true (si.map e8++[[.str nm]])) out2)))[c]?=some (.cells (s7 K (.list true (si.map e8++[[.str nm]])) out2)):=hcs _
    refine WC.call (c7l hK gon h3 (hP gon _ hcol3.gr)) rfl rfl ?_
    rintro _ st3 ⟨e3,rfl⟩
    have hcol3:Col B c K (si++[nm]) (F0++Fi) st3:=by rw [e3]; exact hcol3
    clear e3 h3
    obtain ⟨out3,gs3,h3,hG3,hgs3⟩:=hcol3.ob
    simp +contextual -implicitDefEqProofs only [F6,SS,rA,rS,rL,rE,reduceCtorEq]
    refine WC.br (fun hb=>?_) (fun hb=>?_)
    rotate_left
    · have hb:isB K gon=false:=hb
      simp +contextual -implicitDefEqProofs only [F6,SS,rA,rS,rL,rE,reduceCtorEq,hi1]
      exact WC.next (m':=l.length - (i+1)) (by omega) (nxt (.other hw hk hk2 hq hf hh hb) (by rw [List.append_nil]; exact hcol3))
    · simp +contextual -implicitDefEqProofs only [F6,SS,rA,rS,rL,rE,reduceCtorEq,h3,s7,hff]
      refine WC.call (IH _ (show sizes gsub+q6 K.frags (si++[nm]) < M by have:sizes gsub=sizes (Frag.mk gn gon gsub).sub:=rfl; omega) gsub (si++[nm]) (F0++Fi) st3 (AJ _) ⟨by have:gsub.length≤3000:=hfm.1; omega,hfm.2⟩ hcol3 (by have:sizes gsub=sizes (Frag.mk gn gon gsub).sub:=rfl; rw [AE]; omega) (by rw [AE]; simp only [AX,List.length_nil]; omega)) rfl rfl ?_
      rintro _ st4 ⟨F1,s1,hr1,hcol4⟩
      simp +contextual -implicitDefEqProofs only [F6,SS,rA,rS,rL,rE,reduceCtorEq,hi1]
      exact WC.next (m':=l.length - (i+1)) (by omega) (nxt (.spread hw hk hk2 hq hf hh hb hr1) hcol4)
 have hk2:eqI k 2=false:=hk2
 -- an inline fragment
 obtain ⟨out3,gs3,h3,hG3,hgs3⟩:=hcol2.ob
 rcases e9 (eqN on []) with ho|ho
 · have hon:(eqN on [] || isB K on)=true:=by rw [ho]; rfl
   have hx3:=hx2
   have hcol3:=hcol2
   simp +contextual -implicitDefEqProofs only [F6,SS,rA,rS,rL,rE,reduceCtorEq,hx2,ho]
   refine WC.call (IH _ (show sizes sub+q6 K.frags si < M by omega) sub si (F0++Fi) st2 (AJ _) ⟨by omega,hsub⟩ hcol2 (by rw [AE]; omega) (by omega)) rfl rfl ?_
   rintro _ st4 ⟨F1,s1,hr1,hcol4⟩
   simp +contextual -implicitDefEqProofs only [F6,SS,rA,rS,rL,rE,reduceCtorEq,hi1]
   exact WC.next (m':=l.length - (i+1)) (by omega) (nxt (.inl hw hk hk2 hon hr1) hcol4)
 · simp +contextual -implicitDefEqProofs only [F6,SS,rA,rS,rL,rE,reduceCtorEq,hx2,ho]
   refine WC.call (c7l hK on h3 (hP on _ hcol2.gr)) rfl rfl ?_
   rintro _ st3 ⟨rfl,rfl⟩
   simp +contextual -implicitDefEqProofs only [F6,SS,rA,rS,rL,rE,reduceCtorEq]
   refine WC.br (fun hb=>?_) (fun hb=>?_)
   · have hon:(eqN on [] || isB K on)=true:=by rw [ho]; exact hb
     simp +contextual -implicitDefEqProofs only [F6,SS,rA,rS,rL,rE,reduceCtorEq,hx2]
     refine WC.call (IH _ (show sizes sub+q6 K.frags si < M by omega) sub si (F0++Fi) st3 (AJ _) ⟨by omega,hsub⟩ hcol2 (by rw [AE]; omega) (by omega)) rfl rfl ?_
     rintro _ st4 ⟨F1,s1,hr1,hcol4⟩
     simp +contextual -implicitDefEqProofs only [F6,SS,rA,rS,rL,rE,reduceCtorEq,hi1]
     exact WC.next (m':=l.length - (i+1)) (by omega) (nxt (.inl hw hk hk2 hon hr1) hcol4)
   · have hon:(eqN on [] || isB K on)=false:=by rw [ho]; exact hb
     simp +contextual -implicitDefEqProofs only [F6,SS,rA,rS,rL,rE,reduceCtorEq,hi1]
     exact WC.next (m':=l.length - (i+1)) (by omega) (nxt (.inNo hw hk hk2 hon) (by rw [List.append_nil]; exact hcol2))
def c4d (K:Cfg) (l:List Sel) (st:St) (a:AV) (st':St):Prop:=Gr st st'∧∃ F s' out gs,FRun K l [] F s'∧a=out.weak∧GrpS st.length st' out gs∧gs.map Grp.pr=G5 F
theorem c0U {K:Cfg} (hK:K.OK) (l:List Sel) (hl:l.length≤90000000∧∀ s∈l,s.OK) (hsz:sizes l+q6 K.frags []≤90000000) (st:St) (hP:c2o K st st.length) :
 EvQ tbl 83 [.ptr K.so 0,.agg [.list false K.ops,.list false (K.frags.map Frag.row)],.str K.typ,.list false (l.map Sel.row),.agg [.int .u8 K.vk,.int .i64 K.vn,.str K.vs,.list false (K.vks.map e8),.list false (K.vls.map Val.row)]] st (c4d K l st):=by
 refine EvQ.body (fn:=a83) rfl rfl rfl ?_
 have hcol:Col st st.length K [] [] (st++[.cells (s7 K (.list true []) (.list true []))]):=⟨⟨.list true [],[],p8 _ _,⟨Or.inl ⟨rfl,rfl⟩,by simp,by simp⟩,rfl⟩,fun i x _ hx=>l5 hx⟩
 simp +contextual -implicitDefEqProofs only [K83,SS,rA,rS,rL,rE,reduceCtorEq]
 refine WC.call (c7U hK hP _ l [] [] _ (AJ _) hl hcol (by simpa using hsz) (by simp only [List.length_nil]; omega)) rfl rfl ?_
 rintro _ st2 ⟨F,s',hr,hcol2⟩
 obtain ⟨out,gs,h1,hG,hgs⟩:=hcol2.ob
 have hpl:out.strip=out∧out.stripB=out∧out.weak.weak=out.weak∧out.weak.stripB=out.weak∧out.weak.strip=out.weak∧out.weak1=out.weak:=by
  rcases hG.out with ⟨_,rfl⟩|⟨o,rfl,_⟩
  · exact ⟨rfl,rfl,rfl,rfl,rfl,rfl⟩
  · exact ⟨rfl,rfl,rfl,rfl,rfl,rfl⟩
 obtain ⟨p1,p2,p3,p4,p5,p6⟩:=hpl
 simp +contextual -implicitDefEqProofs only [K83,SS,rA,rS,rL,rE,reduceCtorEq,h1,s7,p1,p2,p3,p4,p5,p6]
 refine WC.ret ⟨_,_,rfl,fun i x hx=>hcol2.gr i x (AB.1 hx).1 hx,F,s',out,gs,hr,?_,hG,by simpa using hgs⟩
 first|rfl|exact p3|simp [p1,p2,p3,p4,p5,p6]
end Go.Cb.CodeA
