import Derived.Test.YtbibkdncfclnbaaGreatDoorC3
set_option maxRecDepth 20000
set_option linter.all false
namespace Go.Cb.CodeA
open Go Go.Cb
open Nat renaming reduceAdd→rA,reduceSub→rS,reduceLeDiff→rL,reduceEqDiff→rE
attribute [local congr] g9 j3 j4 j5 i8 j0 j8 j9 V.runR_congr
mutual
def Sel.size:Sel→Nat
 | .mk _ _ _ _ _ _ sub=>1+sizes sub
def sizes:List Sel→Nat
 | []=>0
 | s::l=>s.size+sizes l
end
def j7:List Frag→List (List Nat)→Nat
 | [],_=>0
 | f::fs,seen=>(if k9 seen f.n then 0 else 1+sizes f.sub)+j7 fs seen
theorem t7 (a b:List Nat):eqN a b=true↔a=b:=by rw[a3u]; simp
theorem W2 (l:List (List Nat)) (n m:List Nat):k9 (l++[n]) m=(k9 l m || eqN m n):=by simp[k9]
theorem b29 (fr:List Frag) (seen:List (List Nat)) (n:List Nat):j7 fr (seen++[n])≤j7 fr seen:=by
 induction fr with
 | nil=>exact AK _
 | cons f fs e =>
  simp only[j7,W2];cases k9 seen f.n with
  | true=>simpa using e
  | false =>
   cases eqN f.n n with
   | true=>simp; omega
   | false=>simp; exact e
theorem N3 (seen:List (List Nat)) (n:List Nat) (l:k9 seen n=false):∀ (fr:List Frag) (i:Nat) (f:Frag),fr[i]?=some f→eqN f.n n=true→j7 fr (seen++[n])+1+sizes f.sub≤j7 fr seen
 | [],i,f,h,_=>by simp at h
 | g::fr,0,f,h,he=>by simp at h; subst h;have:=b29 fr seen n;have e:=(t7 _ _).1 he;simp only[j7,W2,he,Bool.or_true,if_true];rw[e,l];simp;omega
 | g::fr,i+1,f,h,he=>by
  have:=N3 seen n l fr i f (by simpa using h) he;simp only[j7,W2];cases k9 seen g.n with
  | true=>simp; omega
  | false =>
   cases eqN g.n n with
   | true=>simp; omega
   | false=>simp; omega
inductive FRun (K:Cfg):List Sel→List (List Nat)→List Sel→List (List Nat)→Prop
 | nil (s:List (List Nat)):FRun K [] s [] s
 | skipC {k:Int} {al nm on:List Nat} {as:List Arg} {ds:List Dir} {sub:List Sel} {l:List Sel} {s s2:List (List Nat)} {F:List Sel}:N4 K ds=false→FRun K l s F s2→FRun K (.mk k al nm on as ds sub::l) s F s2
 | fieldC {k:Int} {al nm on:List Nat} {as:List Arg} {ds:List Dir} {sub:List Sel} {l:List Sel} {s s2:List (List Nat)} {F:List Sel}:N4 K ds=true→eqI k 1=true→FRun K l s F s2→FRun K (.mk k al nm on as ds sub::l) s (.mk k al nm on as ds sub::F) s2
 | noneC {k:Int} {al nm on:List Nat} {as:List Arg} {ds:List Dir} {sub:List Sel} {l:List Sel} {s s2:List (List Nat)} {F:List Sel}:N4 K ds=true→eqI k 1=false→eqI k 2=true→(pI (fun f:Frag=>eqN f.n nm) K.frags=.none∨k9 s nm=true)→FRun K l s F s2→FRun K (.mk k al nm on as ds sub::l) s F s2
 | otherC {k:Int} {al nm on:List Nat} {as:List Arg} {ds:List Dir} {sub:List Sel} {l:List Sel} {s s2:List (List Nat)} {F:List Sel} {i:Nat} {f:Frag}:N4 K ds=true→eqI k 1=false→eqI k 2=true→pI (fun f:Frag=>eqN f.n nm) K.frags=some i→K.frags[i]?=some f→k9 s nm=false→isB K f.on=false→FRun K l (s++[nm]) F s2→FRun K (.mk k al nm on as ds sub::l) s F s2
 | spreadC {k:Int} {al nm on:List Nat} {as:List Arg} {ds:List Dir} {sub:List Sel} {l:List Sel} {s s2:List (List Nat)} {F:List Sel} {i:Nat} {f:Frag} {s1:List (List Nat)} {F1:List Sel}:N4 K ds=true→eqI k 1=false→eqI k 2=true→pI (fun f:Frag=>eqN f.n nm) K.frags=some i→K.frags[i]?=some f→k9 s nm=false→isB K f.on=true→FRun K f.sub (s++[nm]) F1 s1→FRun K l s1 F s2→FRun K (.mk k al nm on as ds sub::l) s (F1++F) s2
 | inNoC {k:Int} {al nm on:List Nat} {as:List Arg} {ds:List Dir} {sub:List Sel} {l:List Sel} {s s2:List (List Nat)} {F:List Sel}:N4 K ds=true→eqI k 1=false→eqI k 2=false→(eqN on [] || isB K on)=false→FRun K l s F s2→FRun K (.mk k al nm on as ds sub::l) s F s2
 | inlC {k:Int} {al nm on:List Nat} {as:List Arg} {ds:List Dir} {sub:List Sel} {l:List Sel} {s s2:List (List Nat)} {F:List Sel} {s1:List (List Nat)} {F1:List Sel}:N4 K ds=true→eqI k 1=false→eqI k 2=false→(eqN on [] || isB K on)=true→FRun K sub s F1 s1→FRun K l s1 F s2→FRun K (.mk k al nm on as ds sub::l) s (F1++F) s2
section
variable {K:Cfg} {k:Int} {al nm on:List Nat} {as:List Arg} {ds:List Dir} {sub:List Sel} {s s':List (List Nat)} {F:List Sel} {i:Nat} {f:Frag}
theorem FRun.skip (h:N4 K ds=false):FRun K [.mk k al nm on as ds sub] s [] s:=.skipC h (.nil _)
theorem FRun.field (h:N4 K ds=true) (e:eqI k 1=true):FRun K [.mk k al nm on as ds sub] s [.mk k al nm on as ds sub] s:=.fieldC h e (.nil _)
theorem FRun.none (h:N4 K ds=true) (e:eqI k 1=false) (l:eqI k 2=true) (t:pI (fun f:Frag=>eqN f.n nm) K.frags=.none∨k9 s nm=true):FRun K [.mk k al nm on as ds sub] s [] s:=.noneC h e l t (.nil _)
theorem FRun.other (h:N4 K ds=true) (e:eqI k 1=false) (l:eqI k 2=true) (t:pI (fun f:Frag=>eqN f.n nm) K.frags=some i) (u:K.frags[i]?=some f) (v:k9 s nm=false) (x:isB K f.on=false):FRun K [.mk k al nm on as ds sub] s [] (s++[nm]):=.otherC h e l t u v x (.nil _)
theorem FRun.spread (h:N4 K ds=true) (e:eqI k 1=false) (l:eqI k 2=true) (t:pI (fun f:Frag=>eqN f.n nm) K.frags=some i) (u:K.frags[i]?=some f) (v:k9 s nm=false) (x:isB K f.on=true) (y:FRun K f.sub (s++[nm]) F s'):FRun K [.mk k al nm on as ds sub] s F s':=by
 have:=FRun.spreadC (al:=al) (on:=on) (as:=as) (sub:=sub) h e l t u v x y (.nil _)
 rwa [List.append_nil]at this
theorem FRun.inNo (h:N4 K ds=true) (e:eqI k 1=false) (l:eqI k 2=false) (t:(eqN on [] || isB K on)=false):FRun K [.mk k al nm on as ds sub] s [] s:=.inNoC h e l t (.nil _)
theorem FRun.inl (h:N4 K ds=true) (e:eqI k 1=false) (l:eqI k 2=false) (t:(eqN on [] || isB K on)=true) (u:FRun K sub s F s'):FRun K [.mk k al nm on as ds sub] s F s':=by
 have:=FRun.inlC (al:=al) (nm:=nm) (as:=as) h e l t u (.nil _)
 rwa [List.append_nil]at this
end
theorem FRun.cons {K:Cfg} {x:Sel} {l:List Sel} {s v y:List (List Nat)} {u F2:List Sel} (h:FRun K [x] s u v) (t:FRun K l v F2 y):FRun K (x::l) s (u++F2) y:=by
 cases h with
 | skipC a b=>cases b; exact .skipC a t
 | fieldC a b c=>cases c; exact .fieldC a b t
 | noneC a b c d e=>cases e; exact .noneC a b c d t
 | otherC a b c d e f g h=>cases h; exact .otherC a b c d e f g t
 | spreadC a b c d e f g h i=>cases i; rw[List.append_nil]; exact .spreadC a b c d e f g h t
 | inNoC a b c d e=>cases e; exact .inNoC a b c d t
 | inlC a b c d e f=>cases f; rw[List.append_nil]; exact .inlC a b c d e t
theorem a5i (x:Sel):sizes [x]=x.size:=by simp[sizes]
theorem I1 (k:Int) (al nm on:List Nat) (as:List Arg) (ds:List Dir) (sub:List Sel):(Sel.mk k al nm on as ds sub).size=1+sizes sub:=by rw[Sel.size]
theorem m0 (x:Sel) (l:List Sel):sizes (x::l)=x.size+sizes l:=by rw[sizes]
theorem FRun.size {K:Cfg} {l:List Sel} {s:List (List Nat)} {F:List Sel} {s':List (List Nat)} (h:FRun K l s F s'):F.length+j7 K.frags s'≤sizes l+j7 K.frags s∧s'.length+j7 K.frags s'≤s.length+j7 K.frags s:=by
 induction h with
 | nil s=>simp[sizes]
 | skipC _ _ e=>rw[m0]; omega
 | fieldC _ _ _ e=>rw[m0,I1,AY]; omega
 | noneC _ _ _ _ _ e=>rw[m0]; omega
 | @otherC k al nm on as ds sub l s C F i f _ _ _ hi u y _ _ e =>obtain⟨x,t,v,_⟩:=G6 hi;rw[u]at t; cases t;have:=N3 s nm y K.frags i f u v;rw[AF,AY,List.length_nil]at e;rw[m0];omega
 | @spreadC k al nm on as ds sub l s C F i f J I _ _ _ hi u y _ _ _ e z =>obtain⟨x,t,v,_⟩:=G6 hi;rw[u]at t; cases t;have:=N3 s nm y K.frags i f u v;rw[AF,AY,List.length_nil]at e;rw[m0,AF];omega
 | inNoC _ _ _ _ _ e=>rw[m0]; omega
 | inlC _ _ _ _ _ _ e z=>rw[m0,I1,AF]; omega
theorem c1x:∀ (gs:List (List Nat×List Sel)) (x:Sel) (m:Nat),gs.length≤m→(∀ g∈gs,g.2.length≤m)→(K6 gs x).length≤m+1∧∀ g∈K6 gs x,g.2.length≤m+1
 | [],x,m,h1,h2=>by simp[K6]
 | g::gs,x,m,h1,h2=>by
  rw[K6];split
  · refine⟨by simp at h1 ⊢; omega,fun y hy=>?_⟩;rcases List.mem_cons.1 hy with rfl|hy
    · have:=h2 g (by simp); simp; exact this
    · have:=h2 y (by simp[hy]); omega
  · cases m with
    | zero=>simp at h1
    | succ m =>
     have key:∀ (gs:List (List Nat×List Sel)) (M:Nat),(∀ g∈gs,g.2.length≤M)→∀ g∈K6 gs x,g.2.length≤M+1:=by
      intro gs;induction gs with
      | nil=>intro M h y hy; simp[K6]at hy; subst hy; simp
      | cons z zs l =>
       intro M h y hy;rw[K6]at hy;split at hy
       · rcases List.mem_cons.1 hy with rfl|hy
         · have:=h z (by simp); simp; exact this
         · have:=h y (by simp[hy]); omega
       · rcases List.mem_cons.1 hy with rfl|hy
         · have:=h y (by simp); omega
         · exact l M (fun g e=>h g (by simp[e])) y hy
     have len:∀ (gs:List (List Nat×List Sel)),(K6 gs x).length≤gs.length+1:=by
      intro gs;induction gs with
      | nil=>simp[K6]
      | cons z zs l=>rw[K6]; split<;>simp at l ⊢; omega
     refine⟨by have:=len gs; simp at h1 ⊢; omega,fun y hy=>?_⟩;rcases List.mem_cons.1 hy with rfl|hy
     · have:=h2 y (by simp); omega
     · exact key gs _ (fun g e=>h2 g (by simp[e])) y hy
theorem c08 (F:List Sel):(a0E F).length≤F.length∧∀ g∈a0E F,g.2.length≤F.length:=by
 have e:∀ (F:List Sel) (gs:List (List Nat×List Sel)) (m:Nat),gs.length≤m→(∀ g∈gs,g.2.length≤m)→(F.foldl K6 gs).length≤m+F.length∧∀ g∈F.foldl K6 gs,g.2.length≤m+F.length:=by
  intro F;induction F with
  | nil=>intro gs m l t; exact⟨l,t⟩
  | cons x F u =>intro gs m l t;obtain⟨a,b⟩:=c1x gs x m l t;have:=u (K6 gs x) (m+1) a b;simp only[List.foldl_cons,AY];rw[show m+(F.length+1)=m+1+F.length by omega];exact this
 have:=e F [] 0 (by simp) (by simp);simpa[a0E]using this
structure Col (B:St) (c:Nat) (K:Cfg) (seen:List (List Nat)) (F:List Sel) (st:St):Prop where
 ob:∃ out gs,st[c]?=some (.cells (C1 K (.list true (seen.map b9)) out))∧GrpS c st out gs∧gs.map Grp.pr=a0E F
 gr:∀ i x,i < c→B[i]?=some x→st[i]?=some x
theorem Col.ext {B:St} {c:Nat} {K:Cfg} {seen:List (List Nat)} {F:List Sel} {st st':St} (h:Col B c K seen F st) (e:Gr st st'):Col B c K seen F st':=by obtain⟨out,gs,t,u,v⟩:=h.ob;exact⟨⟨out,gs,e _ _ t,u.ext (fun i x _ l=>e _ _ l),v⟩,fun i x hi l=>e _ _ (h.gr i x hi l)⟩
theorem Col.field {B:St} {c:Nat} {K:Cfg} {seen:List (List Nat)} {F:List Sel} {st:St} (h:Col B c K seen F st) (I:F.length≤90000000) (s:Sel):EvQ tbl 169 [.ptr c 0,.agg s.row] st (fun a st'=>Col B c K seen (F++[s]) st'∧st.length≤st'.length):=by
 obtain⟨out,gs,v,y,u⟩:=h.ob;obtain⟨l1,l2⟩:=c08 F;refine(c5y s v y ⟨?_,fun g z=>?_⟩).mono ?_
 · rw[← u,AG]at l1; omega
 · have:=l2 g.pr (by rw[← u]; exact List.mem_map_of_mem z);have e:g.pr.2.length=g.fs.length:=rfl;omega
 · rintro a st' ⟨l,t,g1,g2,g3,g4,g5⟩;exact⟨⟨⟨l,t,g1,g2,by rw[g3,u,b0a]⟩,fun i x hi C=>g4 i x hi (h.gr i x hi C)⟩,g5⟩
theorem c49 (f:Frag) (r:List AV) (nm:List Nat) (p:Nat) (st:St) (k:Int) (al:List Nat) (t:st[p]?=some (.cells (.int .u8 k::.str al::.str nm::r))):EvQ tbl 171 [.agg f.row,.ptr p 0] st (fun a st'=>st'=st∧a=.bool (eqN f.n nm)):=by obtain⟨gn,l,e⟩:=f;show EvQ tbl 171 [.agg [.str gn,.str l,.list false (e.map Sel.row)],.ptr p 0] st _;refine wj (fn:=a171) rfl rfl rfl ?_;simp only[d4u,rS,rE,t];exact wc ⟨_,_,rfl,rfl,rfl⟩
theorem Col.see {B:St} {c:Nat} {K:Cfg} {seen:List (List Nat)} {F:List Sel} {st:St} (h:Col B c K seen F st) (nm:List Nat):∀ out,st[c]?=some (.cells (C1 K (.list true (seen.map b9)) out))→Col B c K (seen++[nm]) F (st.set c (.cells (C1 K (.list true (seen.map b9++[[.str nm]])) out))):=by
 intro out v;obtain⟨l,gs,u,y,z⟩:=h.ob;rw[u]at v;have e:l=out:=by simpa[C1]using v
 subst e;refine⟨⟨l,gs,?_,y.ext (fun i x hi t=>m5 t (by omega)),z⟩,fun i x hi t=>m5 (h.gr i x hi t) (by omega)⟩;rw[AW];exact r7 u
structure SetIv (B:St) (c:Nat) (K:Cfg) (l:List Sel) (seen:List (List Nat)) (F0:List Sel) (i:Nat) (Fi:List Sel) (si:List (List Nat)) (st:St):Prop where
 hi:i≤l.length
 col:Col B c K si (F0++Fi) st
 run:∀ F2 s2,FRun K (l.drop i) si F2 s2→FRun K l seen (Fi++F2) s2
 sz:Fi.length+sizes (l.drop i)+j7 K.frags si≤sizes l+j7 K.frags seen
 sn:si.length+j7 K.frags si≤seen.length+j7 K.frags seen
theorem SetIv.next {B:St} {c:Nat} {K:Cfg} {l:List Sel} {seen:List (List Nat)} {t:List Sel} {i:Nat} {v:List Sel} {C:List (List Nat)} {st:St} (h:SetIv B c K l seen t i v C st) (e:i < l.length) {u:List Sel} {y:List (List Nat)} {st':St} (z:FRun K [l[i]] C u y) (J:Col B c K y (t++v++u) st'):SetIv B c K l seen t (i+1) (v++u) y st':=by obtain⟨I,L⟩:=z.size;have:=h.sz;rw[a5i]at I;refine⟨e,by rw[← AX]; exact J,fun F2 M x=>?_,by rw[AF]; have:=h.sz; rw[List.drop_eq_getElem_cons e,m0]at this; omega,by have:=h.sn; omega⟩;rw[AX];exact h.run _ _ (by rw[List.drop_eq_getElem_cons e]; exact .cons z x)
abbrev c3l (K:Cfg) (B:St) (c:Nat):Prop:=∀ n st',(∀ i x,i < c→B[i]?=some x→st'[i]?=some x)→EvQ tbl 42 [.ptr K.so 0,.str n] st' (fun a s=>s=st'∧a=.list false ((K.poss n).map b9))
theorem c92 {K:Cfg} (hK:K.OK) {B:St} {c:Nat} (hP:c3l K B c):∀ (M:Nat) (l:List Sel) (seen:List (List Nat)) (Z:List Sel) (st:St),sizes l+j7 K.frags seen≤M→(l.length≤90000000∧∀ s∈l,s.OK)→Col B c K seen Z st→Z.length+sizes l+j7 K.frags seen≤90000000→seen.length+j7 K.frags seen≤90000000 →
 EvQ tbl 131 [.ptr c 0,.list false (l.map Sel.row)] st (fun a st'=>∃ F a5,FRun K l seen F a5∧Col B c K a5 (Z++F) st'):=by
 intro M;induction M using Nat.strongRecOn with
 | ind M IH =>
 intro l seen Z st hM hl b3 d7 d2;have e5:=hl.1;refine wj (fn:=a131) rfl rfl rfl ?_;simp only[M7,rS,AG];refine wg (fun mm fr st'=>∃ (i:Nat) (Fi:List Sel) (I:List (List Nat)) (v2 v3 v7:AV),SetIv B c K l seen Z i Fi I st'∧mm=l.length - i∧fr=[.ptr c 0,.list false (l.map Sel.row),v2,v3,.list false (l.map Sel.row),.int .i64 l.length,.int .i64 i,v7]) (m:=l.length) ⟨0,[],seen,_,_,_,⟨Aa _,by rw[List.append_nil]; exact b3,fun F2 s2 h=>by rw[List.nil_append]; exact h,by rw[List.drop_zero]; simp,AK _⟩,rfl,rfl⟩ ?_;rintro mm fr st' ⟨i,Fi,I,v2,v3,v7,T,rfl,rfl⟩;by_cases Y:i < l.length
 rotate_left
 · simp only[M7,Y];refine we ?_;simp only[SS];refine wc ⟨_,_,rfl,Fi,I,?_,T.col⟩;have:=T.run [] I (by rw[List.drop_of_length_le (by omega)]; exact .nil _)
   rwa [List.append_nil]at this
 have e2:(l.map Sel.row)[i]?=some (l[i]).row:=by rw[AU,AE Y]; rfl
 have b1:=hl.2 _ (List.getElem_mem Y);have b0:∀ {F1:List Sel} {s1:List (List Nat)} {st':St},FRun K [l[i]] I F1 s1→Col B c K s1 (Z++Fi++F1) st'→_:=fun hr hc=>T.next Y hr hc
 have a9:=T.sz;rw[List.drop_eq_getElem_cons Y,m0]at a9;have e7:=T.sn;have d0:=T.col;clear T;revert e2 b1 b0 a9;generalize l[i]=x;intro e2 b1 b0 a9;have N:=k7 (show i+1 < 2 ^ 63 by omega);have O:∀ {F1:List Sel} {s1:List (List Nat)} {st2:St} {v2 v3 v7:AV},FRun K [x] I F1 s1→Col B c K s1 (Z++Fi++F1) st2→∃ (i':Nat) (Fi:List Sel) (I:List (List Nat)) (w2 w3 w7:AV),SetIv B c K l seen Z i' Fi I st2∧l.length - (i+1)=l.length - i'∧[.ptr c 0,.list false (l.map Sel.row),v2,v3,.list false (l.map Sel.row),.int .i64 l.length,.int .i64 ((i+1:Nat):Int),v7]=[.ptr c 0,.list false (l.map Sel.row),w2,w3,.list false (l.map Sel.row),.int .i64 l.length,.int .i64 i',w7]:=fun hr hc=>⟨i+1,_,_,_,_,_,b0 hr hc,rfl,rfl⟩
 cases b1 with
 | mk k al nm on as ds sub ha hd d3 a2 =>
 rw[Sel.row_eq]at e2;rw[I1]at a9
 -- the loop's variable
 have L:=d0.ext (Gr.app st' [.cells [.int .u8 k,.str al,.str nm,.str on,.list false (as.map Arg.row),.list false (ds.map Dir.row),.list false (sub.map Sel.row)]]);have b2:=p9 st' (.cells [.int .u8 k,.str al,.str nm,.str on,.list false (as.map Arg.row),.list false (ds.map Dir.row),.list false (sub.map Sel.row)]);have c1:∀ y,(st'++[y])[st'.length]?=some y:=fun y=>p9 st' y
 simp only[M7,rA,rE,Y,e2,c1,V4];clear c1;revert L b2;generalize st'++[Cb.Obj.cells [.int .u8 k,.str al,.str nm,.str on,.list false (as.map Arg.row),.list false (ds.map Dir.row),.list false (sub.map Sel.row)]]=st1;generalize st'.length=xo;intro L b2;obtain⟨out,gs,h1,hG,e4⟩:=L.ob;have c0:=c82 hK (.mk k al nm on as ds sub) (.mk _ _ _ _ _ _ _ ha hd d3 a2) h1;rw[Sel.row_eq]at c0;refine wa c0 rfl rfl ?_;rintro _ st2 ⟨⟨ob,rfl⟩,rfl⟩;have t:=L.ext (Gr.app st1 [ob]);have v:(st1++[ob])[xo]?=_:=m3 b2;revert t v;generalize st1++[ob]=st2;intro t v;dsimp only;simp only[SS];refine wi (fun U=>?_) (fun U=>?_)
 · have U:N4 K ds=false:=by simpa using U
   simp only[M7,N];exact wd (m':=l.length - (i+1)) (by omega) (O (.skip U) (by rw[List.append_nil]; exact t))
 have U:N4 K ds=true:=by simpa using U
 simp only[M7,rE,v];refine wi (fun hk=>?_) (fun hk=>?_)
 · -- a field
   have b6:=t.field (by rw[AF]; omega) (.mk k al nm on as ds sub);rw[Sel.row_eq]at b6;simp only[M7,rA,rE,v];refine wa b6 rfl rfl ?_;rintro _ a6 ⟨u,_⟩;simp only[M7,N];exact wd (m':=l.length - (i+1)) (by omega) (O (.field U hk) u)
 have hk:eqI k 1=false:=hk;simp only[M7,rE];refine wi (fun J=>?_) (fun J=>?_)
 · -- a fragment that is spread
   obtain⟨a4,d6,h2,e0,d5⟩:=t.ob;have e1:=hK.frags.1;simp only[M7,rA,rE,h2,C1];refine wa (c1O 171 [.ptr xo 0] rfl (fun f=>eqN f.n nm) K.frags (by omega) st2 (fun f _=>c49 f _ nm xo st2 k al v)) rfl rfl ?_;rintro _ st2 ⟨rfl,rfl⟩;cases hq:pI (fun f:Frag=>eqN f.n nm) K.frags with
   | none =>simp only[M7,rE,nI,show ltI (-1) 0=true from rfl,N];exact wd (m':=l.length - (i+1)) (by omega) (O (.none U hk J (Or.inl hq)) (by rw[List.append_nil]; exact t))
   | some q =>
    obtain⟨f,hf,d1,e6⟩:=G6 hq;have c4:ltI (q:Int) 0=false:=by rw[ltI_eq]; simp
    have b8:I.length≤100000000:=by omega
    simp only[M7,rE,nI,c4,h2,C1,v];refine wa (I4 I b8 nm st2) rfl rfl ?_;rintro _ st2 ⟨rfl,rfl⟩;simp only[SS];refine wi (fun hh=>?_) (fun hh=>?_)
    · simp only[M7,rE,N];exact wd (m':=l.length - (i+1)) (by omega) (O (.none U hk J (Or.inr hh)) (by rw[List.append_nil]; exact t))
    have hh:k9 I nm=false:=hh;have e9:=N3 I nm hh K.frags q f hf d1;have u:=t.see nm a4 h2;have b4:∀ y:Cb.Obj,(st2.set c y)[c]?=some y:=fun y=>r7 h2
    have d4:∀ y:Cb.Obj,(st2.set c y)[xo]?=st2[xo]?:=fun y=>by
     by_cases e:c=xo
     · subst e; rw[h2]at v; simp[C1]at v
     · exact List.getElem?_set_ne e
    have c7:(I.length+1)*16≤2 ^ 47:=by omega
    have a7:(K.frags.map Frag.row)[q]?=some f.row:=by rw[AU,hf]; rfl
    have b5:=hK.frags.2 f (List.mem_of_getElem? hf);obtain⟨gn,W,z⟩:=f;have a7:(K.frags.map Frag.row)[q]?=some [.str gn,.str W,.list false (z.map Sel.row)]:=a7;simp only[M7,rA,rL,rE,h2,C1,b4,d4,v,X1,AG,c7,List.set_set,a7];have h3:(st2.set c (.cells (C1 K (.list true (I.map b9++[[.str nm]])) a4)))[c]?=some (.cells (C1 K (.list true (I.map b9++[[.str nm]])) a4)):=b4 _;refine wa (c63 hK W h3 (hP W _ u.gr)) rfl rfl ?_;rintro _ a6 ⟨e3,rfl⟩;have u:Col B c K (I++[nm]) (Z++Fi) a6:=by rw[e3]; exact u
    clear e3 h3;obtain⟨c2,c6,h3,c8,b7⟩:=u.ob;simp only[SS];refine wi (fun hb=>?_) (fun hb=>?_)
    rotate_left
    · have hb:isB K W=false:=hb;simp only[M7,N];exact wd (m':=l.length - (i+1)) (by omega) (O (.other U hk J hq hf hh hb) (by rw[List.append_nil]; exact u))
    · simp only[M7,rA,rE,h3,C1,a7];refine wa (IH _ (show sizes z+j7 K.frags (I++[nm]) < M by have:sizes z=sizes (Frag.mk gn W z).sub:=rfl; omega) z (I++[nm]) (Z++Fi) a6 (AK _) ⟨by have:z.length≤3000:=b5.1; omega,b5.2⟩ u (by have:sizes z=sizes (Frag.mk gn W z).sub:=rfl; rw[AF]; omega) (by rw[AF]; simp only[AY,List.length_nil]; omega)) rfl rfl ?_;rintro _ c3 ⟨F1,s1,a1,C⟩;simp only[M7,N];exact wd (m':=l.length - (i+1)) (by omega) (O (.spread U hk J hq hf hh hb a1) C)
 have J:eqI k 2=false:=J
 -- an inline fragment
 obtain⟨c2,c6,h3,c8,b7⟩:=t.ob;rcases e8 (eqN on [])with ho|ho
 · have a0:(eqN on [] || isB K on)=true:=by rw[ho]; rfl
   have f0:=v;have u:=t;simp only[M7,rE,v,ho];refine wa (IH _ (show sizes sub+j7 K.frags I < M by omega) sub I (Z++Fi) st2 (AK _) ⟨by omega,a2⟩ t (by rw[AF]; omega) (by omega)) rfl rfl ?_;rintro _ c3 ⟨F1,s1,a1,C⟩;simp only[M7,N];exact wd (m':=l.length - (i+1)) (by omega) (O (.inl U hk J a0 a1) C)
 · simp only[M7,rE,v,ho];refine wa (c63 hK on h3 (hP on _ t.gr)) rfl rfl ?_;rintro _ a6 ⟨rfl,rfl⟩;simp only[SS];refine wi (fun hb=>?_) (fun hb=>?_)
   · have a0:(eqN on [] || isB K on)=true:=by rw[ho]; exact hb
     simp only[M7,rE,v];refine wa (IH _ (show sizes sub+j7 K.frags I < M by omega) sub I (Z++Fi) a6 (AK _) ⟨by omega,a2⟩ t (by rw[AF]; omega) (by omega)) rfl rfl ?_;rintro _ c3 ⟨F1,s1,a1,C⟩;simp only[M7,N];exact wd (m':=l.length - (i+1)) (by omega) (O (.inl U hk J a0 a1) C)
   · have a0:(eqN on [] || isB K on)=false:=by rw[ho]; exact hb
     simp only[M7,N];exact wd (m':=l.length - (i+1)) (by omega) (O (.inNo U hk J a0) (by rw[List.append_nil]; exact t))
def c4S (K:Cfg) (l:List Sel) (st:St) (a:AV) (st':St):Prop:=Gr st st'∧∃ F s' out gs,FRun K l [] F s'∧a=out.weak∧GrpS st.length st' out gs∧gs.map Grp.pr=a0E F
theorem c1R {K:Cfg} (O:K.OK) (l:List Sel) (U:l.length≤90000000∧∀ s∈l,s.OK) (z:sizes l+j7 K.frags []≤90000000) (st:St) (T:c3l K st st.length) :
 EvQ tbl 83 [.ptr K.so 0,.agg [.list false K.ops,.list false (K.frags.map Frag.row)],.str K.typ,.list false (l.map Sel.row),.agg [.int .u8 K.vk,.int .i64 K.vn,.str K.vs,.list false (K.vks.map b9),.list false (K.vls.map Val.row)]] st (c4S K l st):=by
 refine wj (fn:=a83) rfl rfl rfl ?_;have t:Col st st.length K [] [] (st++[.cells (C1 K (.list true []) (.list true []))]):=⟨⟨.list true [],[],p9 _ _,⟨Or.inl ⟨rfl,rfl⟩,by simp,by simp⟩,rfl⟩,fun i x _ u=>m3 u⟩;simp only[K83,rA,rS,rL,rE];refine wa (c92 O T _ l [] [] _ (AK _) U t (by simpa using z) (by simp only[List.length_nil]; omega)) rfl rfl ?_;rintro _ st2 ⟨F,s',W,e⟩;obtain⟨out,gs,N,I,v⟩:=e.ob;have y:out.strip=out∧out.stripB=out∧out.weak.weak=out.weak∧out.weak.stripB=out.weak∧out.weak.strip=out.weak∧out.weak1=out.weak:=by
  rcases I.out with⟨_,rfl⟩|⟨o,rfl,_⟩
  · exact⟨rfl,rfl,rfl,rfl,rfl,rfl⟩
  · exact⟨rfl,rfl,rfl,rfl,rfl,rfl⟩
 obtain⟨p1,p2,C,J,L,M⟩:=y;simp only[K83,rE,N,C1,C,J,L,M];refine wc ⟨_,_,rfl,fun i x u=>e.gr i x (AB.1 u).1 u,F,s',out,gs,W,?_,I,by simpa using v⟩;first|rfl|exact C|simp[p1,p2,C,J,L,M]
end Go.Cb.CodeA
