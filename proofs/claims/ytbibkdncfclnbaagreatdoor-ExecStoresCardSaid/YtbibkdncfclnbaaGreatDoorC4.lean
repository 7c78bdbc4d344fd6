import Derived.Test.YtbibkdncfclnbaaGreatDoorC3
set_option maxRecDepth 20000
set_option linter.unusedSimpArgs false
set_option linter.unusedVariables false
namespace Go.Cb.CodeA
open Go Go.Cb
attribute [local congr] j1 k8 l5 k9 k4 j9 m0 m2 V.runR_congr

mutual
def Sel.size:Sel→Nat
 | .mk _ _ _ _ _ _ sub=>1+I0 sub
def I0:List Sel→Nat
 | []=>0
 | s::l=>s.size+I0 l
end
def A0:List Frag→List (List Nat)→Nat
 | [],_=>0
 | f::fs,seen=>(if I8 seen f.n then 0 else 1+I0 f.sub)+A0 fs seen
theorem a2r (a b:List Nat):eqN a b=true ↔ a=b:=by rw [Y2]; simp
theorem J1 (l:List (List Nat)) (n m:List Nat):I8 (l++[n]) m=(I8 l m || eqN m n):=by simp [I8]
theorem a9n (fr:List Frag) (seen:List (List Nat)) (n:List Nat):A0 fr (seen++[n])≤A0 fr seen:=by
 induction fr with
 | nil=>exact Nat.le_refl _
 | cons f fs ih =>
  simp only [A0,J1]
  cases I8 seen f.n with
  | true=>simpa using ih
  | false =>
   cases eqN f.n n with
   | true=>simp; omega
   | false=>simp; exact ih
theorem a0l (seen:List (List Nat)) (n:List Nat) (hn:I8 seen n=false):∀ (fr:List Frag) (i:Nat) (f:Frag),fr[i]?=some f→eqN f.n n=true→A0 fr (seen++[n])+1+I0 f.sub≤A0 fr seen
 | [],i,f,h,_=>by simp at h
 | g::fr,0,f,h,he=>by
  simp at h; subst h
  have:=a9n fr seen n
  have e:=(a2r _ _).1 he
  simp only [A0,J1,he,Bool.or_true,if_true]
  rw [e,hn]
  simp
  omega
 | g::fr,i+1,f,h,he=>by
  have:=a0l seen n hn fr i f (by simpa using h) he
  simp only [A0,J1]
  cases I8 seen g.n with
  | true=>simp; omega
  | false =>
   cases eqN g.n n with
   | true=>simp; omega
   | false=>simp; omega
/-- what selections tell: the fields, in their order; the fragments that were come to -/
inductive FRun (K:Cfg):List Sel→List (List Nat)→List Sel→List (List Nat)→Prop
 | nil (s:List (List Nat)):FRun K [] s [] s
 | skipC {k:Int} {al nm on:List Nat} {as:List Arg} {ds:List Dir} {sub:List Sel} {l:List Sel} {s s2:List (List Nat)} {F:List Sel}:L9 K ds=false→FRun K l s F s2→FRun K (.mk k al nm on as ds sub::l) s F s2
 | fieldC {k:Int} {al nm on:List Nat} {as:List Arg} {ds:List Dir} {sub:List Sel} {l:List Sel} {s s2:List (List Nat)} {F:List Sel}:L9 K ds=true→eqI k 1=true→FRun K l s F s2→FRun K (.mk k al nm on as ds sub::l) s (.mk k al nm on as ds sub::F) s2
 | noneC {k:Int} {al nm on:List Nat} {as:List Arg} {ds:List Dir} {sub:List Sel} {l:List Sel} {s s2:List (List Nat)} {F:List Sel}:L9 K ds=true→eqI k 1=false→eqI k 2=true→(pI (fun f:Frag=>eqN f.n nm) K.frags=.none∨I8 s nm=true)→FRun K l s F s2→FRun K (.mk k al nm on as ds sub::l) s F s2
 | otherC {k:Int} {al nm on:List Nat} {as:List Arg} {ds:List Dir} {sub:List Sel} {l:List Sel} {s s2:List (List Nat)} {F:List Sel} {i:Nat} {f:Frag}:L9 K ds=true→eqI k 1=false→eqI k 2=true→pI (fun f:Frag=>eqN f.n nm) K.frags=some i→K.frags[i]?=some f→I8 s nm=false→isB K f.on=false→FRun K l (s++[nm]) F s2→FRun K (.mk k al nm on as ds sub::l) s F s2
 | spreadC {k:Int} {al nm on:List Nat} {as:List Arg} {ds:List Dir} {sub:List Sel} {l:List Sel} {s s2:List (List Nat)} {F:List Sel} {i:Nat} {f:Frag} {s1:List (List Nat)} {F1:List Sel}:L9 K ds=true→eqI k 1=false→eqI k 2=true→pI (fun f:Frag=>eqN f.n nm) K.frags=some i→K.frags[i]?=some f→I8 s nm=false→isB K f.on=true→FRun K f.sub (s++[nm]) F1 s1→FRun K l s1 F s2→FRun K (.mk k al nm on as ds sub::l) s (F1++F) s2
 | inNoC {k:Int} {al nm on:List Nat} {as:List Arg} {ds:List Dir} {sub:List Sel} {l:List Sel} {s s2:List (List Nat)} {F:List Sel}:L9 K ds=true→eqI k 1=false→eqI k 2=false→(eqN on [] || isB K on)=false→FRun K l s F s2→FRun K (.mk k al nm on as ds sub::l) s F s2
 | inlC {k:Int} {al nm on:List Nat} {as:List Arg} {ds:List Dir} {sub:List Sel} {l:List Sel} {s s2:List (List Nat)} {F:List Sel} {s1:List (List Nat)} {F1:List Sel}:L9 K ds=true→eqI k 1=false→eqI k 2=false→(eqN on [] || isB K on)=true→FRun K sub s F1 s1→FRun K l s1 F s2→FRun K (.mk k al nm on as ds sub::l) s (F1++F) s2
section
variable {K:Cfg} {k:Int} {al nm on:List Nat} {as:List Arg} {ds:List Dir} {sub:List Sel} {s s':List (List Nat)} {F:List Sel} {i:Nat} {f:Frag}
theorem FRun.skip (h:L9 K ds=false):FRun K [.mk k al nm on as ds sub] s [] s:=.skipC h (.nil _)
theorem FRun.field (h:L9 K ds=true) (h1:eqI k 1=true):FRun K [.mk k al nm on as ds sub] s [.mk k al nm on as ds sub] s:=.fieldC h h1 (.nil _)
theorem FRun.none (h:L9 K ds=true) (h1:eqI k 1=false) (h2:eqI k 2=true) (h3:pI (fun f:Frag=>eqN f.n nm) K.frags=.none∨I8 s nm=true):FRun K [.mk k al nm on as ds sub] s [] s:=.noneC h h1 h2 h3 (.nil _)
theorem FRun.other (h:L9 K ds=true) (h1:eqI k 1=false) (h2:eqI k 2=true) (h3:pI (fun f:Frag=>eqN f.n nm) K.frags=some i) (h4:K.frags[i]?=some f) (h5:I8 s nm=false) (h6:isB K f.on=false):FRun K [.mk k al nm on as ds sub] s [] (s++[nm]):=.otherC h h1 h2 h3 h4 h5 h6 (.nil _)
theorem FRun.inl (h:L9 K ds=true) (h1:eqI k 1=false) (h2:eqI k 2=false) (h3:(eqN on [] || isB K on)=true) (h4:FRun K sub s F s'):FRun K [.mk k al nm on as ds sub] s F s':=by
 have:=FRun.inlC (al:=al) (nm:=nm) (as:=as) h h1 h2 h3 h4 (.nil _)
 rwa [List.append_nil] at this
end
theorem FRun.cons {K:Cfg} {x:Sel} {l:List Sel} {s s1 s2:List (List Nat)} {F1 F2:List Sel} (h:FRun K [x] s F1 s1) (h2:FRun K l s1 F2 s2):FRun K (x::l) s (F1++F2) s2:=by
 cases h with
 | skipC a b=>cases b; exact .skipC a h2
 | fieldC a b c=>cases c; exact .fieldC a b h2
 | noneC a b c d e=>cases e; exact .noneC a b c d h2
 | otherC a b c d e f g h=>cases h; exact .otherC a b c d e f g h2
 | spreadC a b c d e f g h i=>cases i; rw [List.append_nil]; exact .spreadC a b c d e f g h h2
 | inNoC a b c d e=>cases e; exact .inNoC a b c d h2
 | inlC a b c d e f=>cases f; rw [List.append_nil]; exact .inlC a b c d e h2
theorem b4f (x:Sel):I0 [x]=x.size:=by simp [I0]
theorem a9B (k:Int) (al nm on:List Nat) (as:List Arg) (ds:List Dir) (sub:List Sel):(Sel.mk k al nm on as ds sub).size=1+I0 sub:=by rw [Sel.size]
theorem D4 (x:Sel) (l:List Sel):I0 (x::l)=x.size+I0 l:=by rw [I0]
theorem FRun.size {K:Cfg} {l:List Sel} {s:List (List Nat)} {F:List Sel} {s':List (List Nat)} (h:FRun K l s F s'):F.length+A0 K.frags s'≤I0 l+A0 K.frags s∧s'.length+A0 K.frags s'≤s.length+A0 K.frags s:=by
 induction h with
 | nil s=>simp [I0]
 | skipC _ _ ih=>rw [D4]; omega
 | fieldC _ _ _ ih=>rw [D4,a9B,List.length_cons]; omega
 | noneC _ _ _ _ _ ih=>rw [D4]; omega
 | @otherC k al nm on as ds sub l s s2 F i f _ _ _ hi hf hn _ _ ih =>
  obtain ⟨x,h1,h2,_⟩:=a1n hi
  rw [hf] at h1; cases h1
  have:=a0l s nm hn K.frags i f hf h2
  rw [List.length_append,List.length_cons,List.length_nil] at ih
  rw [D4]
  omega
 | @spreadC k al nm on as ds sub l s s2 F i f s1 F1 _ _ _ hi hf hn _ _ _ ih ih2 =>
  obtain ⟨x,h1,h2,_⟩:=a1n hi
  rw [hf] at h1; cases h1
  have:=a0l s nm hn K.frags i f hf h2
  rw [List.length_append,List.length_cons,List.length_nil] at ih
  rw [D4,List.length_append]
  omega
 | inNoC _ _ _ _ _ ih=>rw [D4]; omega
 | inlC _ _ _ _ _ _ ih ih2=>rw [D4,a9B,List.length_append]; omega
theorem b48:∀ (gs:List (List Nat×List Sel)) (x:Sel) (m:Nat),gs.length≤m→(∀ g∈gs,g.2.length≤m)→(C4 gs x).length≤m+1∧∀ g∈C4 gs x,g.2.length≤m+1
 | [],x,m,h1,h2=>by simp [C4]
 | g::gs,x,m,h1,h2=>by
  rw [C4]
  split
  · refine ⟨by simp at h1 ⊢; omega,fun y hy=>?_⟩
    rcases List.mem_cons.1 hy with rfl|hy
    · have:=h2 g (by simp); simp; exact this
    · have:=h2 y (by simp [hy]); omega
  · cases m with
    | zero=>simp at h1
    | succ m =>
     have key:∀ (gs:List (List Nat×List Sel)) (M:Nat),(∀ g∈gs,g.2.length≤M)→∀ g∈C4 gs x,g.2.length≤M+1:=by
      intro gs
      induction gs with
      | nil=>intro M h y hy; simp [C4] at hy; subst hy; simp
      | cons z zs ih =>
       intro M h y hy
       rw [C4] at hy
       split at hy
       · rcases List.mem_cons.1 hy with rfl|hy
         · have:=h z (by simp); simp; exact this
         · have:=h y (by simp [hy]); omega
       · rcases List.mem_cons.1 hy with rfl|hy
         · have:=h y (by simp); omega
         · exact ih M (fun g hg=>h g (by simp [hg])) y hy
     have len:∀ (gs:List (List Nat×List Sel)),(C4 gs x).length≤gs.length+1:=by
      intro gs
      induction gs with
      | nil=>simp [C4]
      | cons z zs ih=>rw [C4]; split <;> simp at ih ⊢; omega
     refine ⟨by have:=len gs; simp at h1 ⊢; omega,fun y hy=>?_⟩
     rcases List.mem_cons.1 hy with rfl|hy
     · have:=h2 y (by simp); omega
     · exact key gs _ (fun g hg=>h2 g (by simp [hg])) y hy
theorem b4X (F:List Sel):(a2E F).length≤F.length∧∀ g∈a2E F,g.2.length≤F.length:=by
 have gen:∀ (F:List Sel) (gs:List (List Nat×List Sel)) (m:Nat),gs.length≤m→(∀ g∈gs,g.2.length≤m)→(F.foldl C4 gs).length≤m+F.length∧∀ g∈F.foldl C4 gs,g.2.length≤m+F.length:=by
  intro F
  induction F with
  | nil=>intro gs m h1 h2; exact ⟨h1,h2⟩
  | cons x F ih =>
   intro gs m h1 h2
   obtain ⟨a,b⟩:=b48 gs x m h1 h2
   have:=ih (C4 gs x) (m+1) a b
   simp only [List.foldl_cons,List.length_cons]
   rw [show m+(F.length+1)=m+1+F.length by omega]
   exact this
 have:=gen F [] 0 (by simp) (by simp)
 simpa [a2E] using this

/-- how a collector stands -/
structure Col (B:St) (c:Nat) (K:Cfg) (seen:List (List Nat)) (F:List Sel) (st:St):Prop where
 ob:∃ out gs,st[c]?=some (.cells (E4 K (.list true (seen.map j6)) out))∧GrpS c st out gs∧gs.map Grp.pr=a2E F
 gr:∀ i x,i < c→B[i]?=some x→st[i]?=some x
theorem Col.ext {B:St} {c:Nat} {K:Cfg} {seen:List (List Nat)} {F:List Sel} {st st':St} (h:Col B c K seen F st) (hg:Gr st st'):Col B c K seen F st':=by
 obtain ⟨out,gs,h1,h2,h3⟩:=h.ob
 exact ⟨⟨out,gs,hg _ _ h1,h2.ext (fun i x _ hx=>hg _ _ hx),h3⟩,fun i x hi hx=>hg _ _ (h.gr i x hi hx)⟩
theorem Col.field {B:St} {c:Nat} {K:Cfg} {seen:List (List Nat)} {F:List Sel} {st:St} (h:Col B c K seen F st) (hF:F.length≤90000000) (s:Sel):EvQ tbl 169 [.ptr c 0,.agg s.row] st (fun a st'=>Col B c K seen (F++[s]) st'∧st.length≤st'.length):=by
 obtain ⟨out,gs,h1,h2,h3⟩:=h.ob
 obtain ⟨l1,l2⟩:=b4X F
 refine (b8b s h1 h2 ⟨?_,fun g hg=>?_⟩).mono ?_
 · rw [← h3,List.length_map] at l1; omega
 · have:=l2 g.pr (by rw [← h3]; exact List.mem_map_of_mem hg)
   have e:g.pr.2.length=g.fs.length:=rfl
   omega
 · rintro a st' ⟨out',gs',g1,g2,g3,g4,g5⟩
   exact ⟨⟨⟨out',gs',g1,g2,by rw [g3,h3,b3F]⟩,fun i x hi hx=>g4 i x hi (h.gr i x hi hx)⟩,g5⟩
/-- one fragment more was come to -/
theorem Col.see {B:St} {c:Nat} {K:Cfg} {seen:List (List Nat)} {F:List Sel} {st:St} (h:Col B c K seen F st) (nm:List Nat):∀ out,st[c]?=some (.cells (E4 K (.list true (seen.map j6)) out))→Col B c K (seen++[nm]) F (st.set c (.cells (E4 K (.list true (seen.map j6++[[.str nm]])) out))):=by
 intro out ho
 obtain ⟨out',gs,h1,h2,h3⟩:=h.ob
 rw [h1] at ho
 have e:out'=out:=by simpa [E4] using ho
 subst e
 refine ⟨⟨out',gs,?_,h2.ext (fun i x hi hx=>i7 hx (by omega)),h3⟩,fun i x hi hx=>i7 (h.gr i x hi hx) (by omega)⟩
 rw [List.map_append]
 exact H5 h1
structure SetIv (B:St) (c:Nat) (K:Cfg) (l:List Sel) (seen:List (List Nat)) (F0:List Sel) (i:Nat) (Fi:List Sel) (si:List (List Nat)) (st:St):Prop where
 hi:i≤l.length
 col:Col B c K si (F0++Fi) st
 run:∀ F2 s2,FRun K (l.drop i) si F2 s2→FRun K l seen (Fi++F2) s2
 sz:Fi.length+I0 (l.drop i)+A0 K.frags si≤I0 l+A0 K.frags seen
 sn:si.length+A0 K.frags si≤seen.length+A0 K.frags seen
theorem SetIv.next {B:St} {c:Nat} {K:Cfg} {l:List Sel} {seen:List (List Nat)} {F0:List Sel} {i:Nat} {Fi:List Sel} {si:List (List Nat)} {st:St} (h:SetIv B c K l seen F0 i Fi si st) (hil:i < l.length) {F1:List Sel} {s1:List (List Nat)} {st':St} (hr:FRun K [l[i]] si F1 s1) (hc:Col B c K s1 (F0++Fi++F1) st'):SetIv B c K l seen F0 (i+1) (Fi++F1) s1 st':=by
 obtain ⟨h1,h2⟩:=hr.size
 have:=h.sz
 rw [b4f] at h1
 refine ⟨hil,by rw [← List.append_assoc]; exact hc,fun F2 s2 hr2=>?_,by rw [List.length_append]; have:=h.sz; rw [List.drop_eq_getElem_cons hil,D4] at this; omega,by have:=h.sn; omega⟩
 rw [List.append_assoc]
 exact h.run _ _ (by rw [List.drop_eq_getElem_cons hil]; exact .cons hr hr2)

end Go.Cb.CodeA
