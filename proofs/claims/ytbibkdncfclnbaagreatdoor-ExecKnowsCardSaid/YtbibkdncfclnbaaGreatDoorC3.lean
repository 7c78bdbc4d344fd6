import Derived.Test.YtbibkdncfclnbaaGreatDoorC2
set_option maxRecDepth 20000
set_option linter.all false
namespace Go.Cb.CodeA
open Go Go.Cb
open Nat renaming reduceAdd→rA,reduceSub→rS,reduceLeDiff→rL,reduceEqDiff→rE
attribute [local congr] g9 j3 j4 j5 i8 j0 j8 j9 V.runR_congr
def D4:Sel→List Nat
 | .mk _ al nm _ _ _ _=>if eqN al []then nm else al
def K6:List (List Nat×List Sel)→Sel→List (List Nat×List Sel)
 | [],x=>[(D4 x,[x])]
 | g::gs,x=>if eqN g.1 (D4 x)then(g.1,g.2++[x])::gs else g::K6 gs x
def a0E (F:List Sel):List (List Nat×List Sel):=F.foldl K6 []
theorem b0a (F:List Sel) (x:Sel):a0E (F++[x])=K6 (a0E F) x:=by rw[a0E,List.foldl_append]; rfl
structure Grp where
 key:List Nat
 fo:Nat
 fs:List Sel
def Grp.pr (g:Grp):List Nat×List Sel:=(g.key,g.fs)
def B2 (gs:List Grp):List AV:=gs.flatMap fun g=>[.str g.key,.sl g.fo 0 g.fs.length 7]
theorem I5 (g:Grp) (gs:List Grp):B2 (g::gs)=.str g.key::.sl g.fo 0 g.fs.length 7::B2 gs:=rfl
theorem b5E (a b:List Grp):B2 (a++b)=B2 a++B2 b:=by simp[B2]
theorem a0r (gs:List Grp):(B2 gs).length=gs.length*2:=by
 induction gs with
 | nil=>rfl
 | cons g gs e=>rw[I5,AY,AY,e,AY]; omega
theorem a3t (gs:List Grp):∀ i,(B2 gs).drop (i*2)=B2 (gs.drop i):=by
 induction gs with
 | nil=>intro i; simp[B2]
 | cons g gs e =>
  intro i;cases i with
  | zero=>rfl
  | succ i=>rw[show(i+1)*2=i*2+1+1 by omega,I5,List.drop_succ_cons,List.drop_succ_cons,e]; rfl
theorem b6E (gs:List Grp):∀ (i:Nat) (g g':Grp),gs[i]?=some g→g'.key=g.key→B2 (gs.set i g')=(B2 gs).set (i*2+1) (.sl g'.fo 0 g'.fs.length 7):=by
 induction gs with
 | nil=>intro i g g' h; simp at h
 | cons x gs l =>
  intro i g g' h e;cases i with
  | zero =>simp at h; subst h;rw[List.set_cons_zero,I5,I5,e];rfl
  | succ i =>rw[List.set_cons_succ,I5,I5,show(i+1)*2+1=(i*2+1)+1+1 by omega,List.set_cons_succ,List.set_cons_succ,l i g g' (by simpa using h) e]
def s4 (fs:List Sel):List AV:=fs.flatMap Sel.row
theorem b6t (fs:List Sel):(s4 fs).length=fs.length*7:=by
 induction fs with
 | nil=>rfl
 | cons g gs e=>rw[s4,List.flatMap_cons,AF,Sel.row_len]; rw[s4]at e; rw[e,AY]; omega
theorem b21 (fs:List Sel) (s:Sel):s4 (fs++[s])=s4 fs++s.row:=by simp[s4]
structure GrpS (c:Nat) (st:St) (out:AV) (gs:List Grp):Prop where
 out:(gs=[]∧out=.list true [])∨∃ o,out=.sl o 0 gs.length 2∧c < o∧st[o]?=some (.cells (B2 gs))∧∀ g∈gs,g.fo≠o
 fs:∀ g∈gs,c < g.fo∧st[g.fo]?=some (.cells (s4 g.fs))
 nd:(gs.map Grp.fo).Nodup
theorem GrpS.ext {c:Nat} {st st':St} {out:AV} {gs:List Grp} (h:GrpS c st out gs) (u:∀ i x,c < i→st[i]?=some x→st'[i]?=some x):GrpS c st' out gs:=by
 refine⟨?_,fun g l=>⟨(h.fs g l).1,u _ _ (h.fs g l).1 (h.fs g l).2⟩,h.nd⟩;rcases h.out with e|⟨o,e,t,v,y⟩
 · exact Or.inl e
 · exact Or.inr ⟨o,e,t,u _ _ t v,y⟩
theorem b0v:∀ (gs:List Grp) (s:Sel),pI (fun g:Grp=>eqN g.key (D4 s)) gs=none→K6 (gs.map Grp.pr) s=gs.map Grp.pr++[(D4 s,[s])]
 | [],s,_=>rfl
 | g::gs,s,h=>by
  rw[X7]at h;by_cases l:eqN g.key (D4 s)=true
  · rw[if_pos l]at h; cases h
  · rw[if_neg l]at h;have e:pI (fun g:Grp=>eqN g.key (D4 s)) gs=none:=by cases e:pI (fun g:Grp=>eqN g.key (D4 s)) gs with|none=>rfl|some j=>rw[e]at h; cases h
    rw[AH,K6,if_neg (by exact l),b0v gs s e]; rfl
theorem a9O:∀ (gs:List Grp) (s:Sel) (i fo:Nat) (g:Grp),pI (fun g:Grp=>eqN g.key (D4 s)) gs=some i→gs[i]?=some g→K6 (gs.map Grp.pr) s=(gs.set i ⟨g.key,fo,g.fs++[s]⟩).map Grp.pr
 | [],s,_,_,_,h,_=>by cases h
 | x::gs,s,i,fo,g,h,hi=>by
  rw[X7]at h;by_cases e:eqN x.key (D4 s)=true
  · rw[if_pos e]at h; cases h;simp at hi; subst hi;rw[AH,K6,if_pos (by exact e)]; rfl
  · rw[if_neg e]at h;cases l:pI (fun g:Grp=>eqN g.key (D4 s)) gs with
    | none=>rw[l]at h; cases h
    | some j =>rw[l]at h; cases h;rw[AH,K6,if_neg (by exact e),a9O gs s j fo g l (by simpa using hi)]; rfl
theorem c0A (f:AV) (st:St) (l:f.plain=true) (t:f.weak=f):EvQ tbl 189 [.list false [],f] st (fun a st'=>st'=st∧a=.int .i64 (-1)):=by refine wj (fn:=a189) rfl rfl rfl ?_;simp only[a4N,rS];refine wg (fun e fr st'=>st'=st∧fr=[.list false [],f,.int .i64 0,.undef,.int .i64 0,.int .i64 0]) (m:=0) ⟨rfl,rfl⟩ ?_;rintro e fr st' ⟨rfl,rfl⟩;simp only[a4N,show ltI 0 0=false from rfl];refine we ?_;simp only[a4N];exact wc ⟨_,_,rfl,rfl,rfl⟩
theorem c9H (key kp:List Nat) (F:AV) (e:∃ o n,F=.sl o 0 n 7) (p:Nat) (st:St) (l:st[p]?=some (.cells [.str kp])):EvQ tbl 190 [.agg [.str key,F],.ptr p 0] st (fun a st'=>st'=st∧a=.bool (eqN key kp)):=by obtain⟨o,n,rfl⟩:=e;refine wj (fn:=a190) rfl rfl rfl ?_;simp only[d5e,rS,rE,l];exact wc ⟨_,_,rfl,rfl,rfl⟩
theorem b8f {o p:Nat} (gs:List Grp) (M:gs.length≤100000000) (kp:List Nat) (st:St) (z:st[o]?=some (.cells (B2 gs))) (C:st[p]?=some (.cells [.str kp])) :
 EvQ tbl 189 [.sl o 0 gs.length 2,.func 190 [] [.ptr p 0]] st (fun a st'=>st'=st∧a=.int .i64 (nI (pI (fun g:Grp=>eqN g.key kp) gs))):=by
 refine wj (fn:=a189) rfl rfl rfl ?_;simp only[a4N,rS];refine wg (fun y fr st'=>st'=st∧∃ (i:Nat) (v3:AV),i≤gs.length∧y=gs.length - i∧pI (fun g:Grp=>eqN g.key kp) gs=(pI (fun g:Grp=>eqN g.key kp) (gs.drop i)).map (fun j=>j+i)∧fr=[.sl o 0 gs.length 2,.func 190 [] [.ptr p 0],.int .i64 0,v3,.int .i64 gs.length,.int .i64 i]) (m:=gs.length) ⟨rfl,0,_,Aa _,rfl,by simp,rfl⟩ ?_;rintro y fr st' ⟨rfl,i,v3,hi,rfl,e,rfl⟩;simp only[a4N];by_cases l:i < gs.length
 · have t:=a3t gs i;have u:(i:Int) < (gs.length:Int):=by omega
   rw[List.drop_eq_getElem_cons l,X7]at e;rw[List.drop_eq_getElem_cons l,I5]at t;revert e t;generalize gs[i]=x;intro e t;obtain⟨J,L,I⟩:=x;dsimp only at e t;simp only[a4N,rL,rE,l,u,z,t];refine wl (c9H J kp (.sl L 0 I.length 7) ⟨_,_,rfl⟩ p st' C) rfl rfl ?_;rintro _ st2 ⟨rfl,rfl⟩;simp only[SS];refine wi (fun v=>?_) (fun v=>?_)
   · simp only[a4N];refine wh ?_;simp only[SS];refine wc ⟨_,_,rfl,rfl,?_⟩;rw[e,if_pos v];show _=AV.int .i64 ((0+i:Nat):Int);rw[Nat.zero_add]; rfl
   · simp only[a4N,k7 (show i+1 < 2 ^ 63 by omega)];refine wd (m':=gs.length - (i+1)) (by omega) ⟨rfl,i+1,_,l,rfl,?_,rfl⟩
     rw[e,if_neg (by rw[v]; decide),Option.map_map];congr 1;funext j;show j+1+i=j+(i+1);omega
 · simp only[SS,l];refine we ?_;simp only[a4N];refine wc ⟨_,_,rfl,rfl,?_⟩;rw[e,List.drop_of_length_le (by omega)];rfl
theorem V4 (st:St) (y z:Cb.Obj):(st++[y]).set st.length z=st++[z]:=by rw[List.set_append_right _ _ (AK _),Nat.sub_self]; rfl
theorem b71 {l:List Nat} {i n:Nat} (h:l.Nodup) (e:n ∉ l):(l.set i n).Nodup:=by
 induction l generalizing i with
 | nil=>simp
 | cons a l u =>
  rw[List.nodup_cons]at h;rw[List.mem_cons,not_or]at e;cases i with
  | zero=>rw[List.set_cons_zero,List.nodup_cons]; exact⟨e.2,h.2⟩
  | succ i =>
   rw[List.set_cons_succ,List.nodup_cons];refine⟨fun t=>?_,u h.2 e.2⟩;rcases List.mem_or_eq_of_mem_set t with h1|h1
   · exact h.1 h1
   · exact e.1 h1.symm
theorem d1W {c:Nat} {st:St} {out:AV} {gs:List Grp} (h:GrpS c st out gs) {g:Grp} (e:g∈gs):g.fo < st.length:=(AB.1 (h.fs g e).2).1
def a7M (K:Cfg) (c:Nat) (sn:AV) (gs:List Grp) (s:Sel) (st:St) (st':St):Prop:=∃ e l,st'[c]?=some (.cells (C1 K sn e))∧GrpS c st' e l∧l.map Grp.pr=K6 (gs.map Grp.pr) s∧(∀ i x,i < c→st[i]?=some x→st'[i]?=some x)∧st.length≤st'.length
theorem c76 {K:Cfg} {c o p:Nat} {sn v5 v6 v7:AV} {gs:List Grp} {s:Sel} {key:List Nat} {st st2:St} {k:Int} {al nm on:List Nat} {as:List Arg} {ds:List Dir} {sub:List Sel} (W:Sel.mk k al nm on as ds sub=s)
 (e:st2[c]?=some (.cells (C1 K sn (.sl o 0 (gs.length+1) 2)))) (v:c < o) (C:st2[o]?=some (.cells (B2 gs++[.str key,.list true []]))) (l:∀ g∈gs,c < g.fo∧g.fo≠o∧st2[g.fo]?=some (.cells (s4 g.fs))) (z:(gs.map Grp.fo).Nodup)
 (I:pI (fun g:Grp=>eqN g.key (D4 s)) gs=none) (t:key=D4 s) (y:∀ i x,i < c→st[i]?=some x→st2[i]?=some x) (hl:st.length≤st2.length) :
 WC (fun n=>j1 (k8 tbl n) n (ACode.either [5,6,7] (a169s18.seq a6p) a0o) [.ptr c 0,.agg [.int .u8 k,.str al,.str nm,.str on,.list false (as.map Arg.row),.list false (ds.map Dir.row),.list false (sub.map Sel.row)],.box [.int .u8 k,.str al,.str nm,.str on,.list false (as.map Arg.row),.list false (ds.map Dir.row),.list false (sub.map Sel.row)],.ptr p 0,.int .i64 ((gs.length:Nat):Int),v5,v6,v7] st2) (fun o=>∃ r st',finK [] (some o)=some (r,st')∧a7M K c sn gs s st st'):=by
 have u:c < st2.length:=(AB.1 e).1;have U:o < st2.length:=(AB.1 C).1;have O:(B2 gs++[AV.str key,AV.list true []])[gs.length*2+1]?=some (AV.list true []):=by rw[List.getElem?_append_right (by rw[a0r]; omega),a0r,show gs.length*2+1 - gs.length*2=1 by omega]; rfl
 refine⟨0,_,fun N _=>c7c (n:=gs.length+1) k al nm on (as.map Arg.row) (ds.map Dir.row) (sub.map Sel.row) e C (by omega) O (k8 tbl N) N,_,_,rfl,.sl o 0 (gs.length+1) 2,gs++[⟨key,st2.length,[s]⟩],?_,⟨Or.inr ⟨o,by rw[AF]; rfl,v,?_,fun g hg=>?_⟩,fun g hg=>?_,?_⟩,?_,fun i x hi Y=>?_,?_⟩
 · exact m3 (m5 e (by omega))
 · unfold stM;refine(m3 (r7 C)).trans ?_;rw[b5E];congr 2;rw[List.set_append_right _ _ (by rw[a0r]; omega),a0r,show gs.length*2+1 - gs.length*2=1 by omega];rfl
 · rcases AQ.1 hg with hg|hg
   · exact(l g hg).2.1
   · simp at hg; subst hg;show st2.length≠o;omega
 · unfold stM;rcases AQ.1 hg with hg|hg
   · obtain⟨L,Z,M⟩:=l g hg;exact⟨L,m3 (m5 M (by omega))⟩
   · simp at hg; subst hg;refine⟨u,?_⟩;show(st2.set o _++[_])[st2.length]?=some (.cells (s4 [s]));have:=p9 (st2.set o (Cb.Obj.cells ((B2 gs++[AV.str key,AV.list true []]).set (gs.length*2+1) (.sl st2.length 0 1 7)))) (Cb.Obj.cells [.int .u8 k,.str al,.str nm,.str on,.list false (as.map Arg.row),.list false (ds.map Dir.row),.list false (sub.map Sel.row)]);rw[Ab]at this;rw[this,← W];simp only[s4,List.flatMap_cons,List.flatMap_nil,List.append_nil,Sel.row_eq]
 · rw[AW,List.nodup_append];refine⟨z,by simp,fun a T b J=>?_⟩;simp at J; subst J;obtain⟨g,hg,rfl⟩:=List.mem_map.1 T;have:=(AB.1 (l g hg).2.2).1;omega
 · rw[AW,b0v gs s I,t]; rfl
 · exact m3 (m5 (y i x hi Y) (by omega))
 · show st.length≤(st2.set o _++[_]).length;rw[AF,Ab]; omega
theorem d36 {K:Cfg} {c o p i:Nat} {sn v5 v6 v7:AV} {gs:List Grp} {s:Sel} {st st2:St} {k:Int} {al nm on:List Nat} {as:List Arg} {ds:List Dir} {sub:List Sel} (hs:Sel.mk k al nm on as ds sub=s)
 (z:st2[c]?=some (.cells (C1 K sn (.sl o 0 gs.length 2)))) (L:GrpS c st2 (.sl o 0 gs.length 2) gs) (hi:pI (fun g:Grp=>eqN g.key (D4 s)) gs=some i) (hb:∀ g∈gs,g.fs.length≤90000000) (a0:∀ i x,i < c→st[i]?=some x→st2[i]?=some x) (hl:st.length≤st2.length) :
 WC (fun n=>j1 (k8 tbl n) n (ACode.either [5,6,7] (a169s18.seq a6p) a0o) [.ptr c 0,.agg [.int .u8 k,.str al,.str nm,.str on,.list false (as.map Arg.row),.list false (ds.map Dir.row),.list false (sub.map Sel.row)],.box [.int .u8 k,.str al,.str nm,.str on,.list false (as.map Arg.row),.list false (ds.map Dir.row),.list false (sub.map Sel.row)],.ptr p 0,.int .i64 ((i:Nat):Int),v5,v6,v7] st2) (fun o=>∃ r st',finK [] (some o)=some (r,st')∧a7M K c sn gs s st st'):=by
 have Y:c < st2.length:=(AB.1 z).1;rcases L.out with⟨_,W⟩|⟨o',W,Z,ho,J⟩
 · cases W
 cases W;have a4:o < st2.length:=(AB.1 ho).1;obtain⟨g,O,hk,I⟩:=G6 hi;have C:=List.mem_of_getElem? O;obtain⟨a2,hX⟩:=L.fs g C;have T:=J g C;have hF:(B2 gs)[i*2+1]?=some (AV.sl g.fo 0 g.fs.length 7):=by have:=a3t gs i;rw[List.drop_eq_getElem_cons I,show gs[i]=g from(AB.1 O).2,I5]at this;have M:=congrArg (fun l=>l[1]?) this;simpa using M
 have U:=b6E gs i g ⟨g.key,st2.length,g.fs++[s]⟩ O rfl;have a1:∀ g'∈gs,g'.fo < st2.length:=fun g' t=>(AB.1 (L.fs g' t).2).1
 have y:∀ (j:Nat) (g':Grp),gs[j]?=some g'→j≠i→g'.fo≠g.fo:=by
  intro j g' v u he;have h1:(gs.map Grp.fo)[j]?=some g'.fo:=by rw[AU,v]; rfl
  have M:(gs.map Grp.fo)[i]?=some g.fo:=by rw[AU,O]; rfl
  have h3:=(AB.1 h1).1;exact u (((List.getElem?_inj h3 L.nd).1 (by rw[h1,M,he])))
 refine⟨0,_,fun N _=>c95 (n:=gs.length) (m:=g.fs.length) k al nm on (as.map Arg.row) (ds.map Dir.row) (sub.map Sel.row) z ho I hF hX T (by omega) (by rw[b6t]) (by have:=hb g C; omega) (k8 tbl N) N,_,_,rfl,.sl o 0 gs.length 2,gs.set i ⟨g.key,st2.length,g.fs++[s]⟩,?_,⟨Or.inr ⟨o,by rw[Ab],Z,?_,fun g' t=>?_⟩,fun g' t=>?_,?_⟩,?_,fun i x hi hx=>?_,?_⟩
 · exact m3 (m5 (m5 z (by omega)) (by omega))
 · refine(m3 (m5 (r7 ho) T)).trans ?_;rw[U,AF];rfl
 · rcases List.mem_or_eq_of_mem_set t with h1|h1
   · exact J g' h1
   · subst h1; show st2.length≠o; omega
 · obtain⟨j,v⟩:=List.mem_iff_getElem?.1 t;rw[List.getElem?_set]at v;by_cases u:i=j
   · subst u;rw[if_pos rfl,if_pos I]at v;cases v;refine⟨Y,?_⟩;have:=p9 ((st2.set o (Cb.Obj.cells ((B2 gs).set (i*2+1) (.sl st2.length 0 (g.fs.length+1) 7)))).set g.fo Cb.Obj.dead) (Cb.Obj.cells (s4 g.fs++[.int .u8 k,.str al,.str nm,.str on,.list false (as.map Arg.row),.list false (ds.map Dir.row),.list false (sub.map Sel.row)]));rw[Ab,Ab]at this;refine this.trans ?_;show _=some (Cb.Obj.cells (s4 (g.fs++[s])));rw[b21,← hs,Sel.row_eq]
   · rw[if_neg u]at v;obtain⟨h1,M⟩:=L.fs g' (List.mem_of_getElem? v);exact⟨h1,m3 (m5 (m5 M (fun e=>J g' (List.mem_of_getElem? v) e.symm)) (fun e=>y j g' v (fun e=>u e.symm) e.symm))⟩
 · rw[List.map_set];refine b71 L.nd fun hm=>?_
   obtain⟨g',t,e⟩:=List.mem_map.1 hm;have:=a1 g' t;have e:g'.fo=st2.length:=e;omega
 · exact(a9O gs s i st2.length g hi O).symm
 · exact m3 (m5 (m5 (a0 i x hi hx) (by omega)) (by omega))
 · show st.length≤((st2.set o _).set g.fo _++[_]).length;rw[AF,Ab,Ab]; omega
theorem c5y {K:Cfg} {c:Nat} {sn out:AV} {gs:List Grp} (s:Sel) {st:St} (h:st[c]?=some (.cells (C1 K sn out))) (hG:GrpS c st out gs) (hb:gs.length≤90000000∧∀ g∈gs,g.fs.length≤90000000) :
 EvQ tbl 169 [.ptr c 0,.agg s.row] st (fun a st'=>a7M K c sn gs s st st'):=by
 obtain⟨k,al,nm,on,as,ds,sub⟩:=s;have W:D4 (.mk k al nm on as ds sub)=if eqN al []then nm else al:=rfl
 revert W;generalize Z:Sel.mk k al nm on as ds sub=s;intro W;have U:s.row=[.int .u8 k,.str al,.str nm,.str on,.list false (as.map Arg.row),.list false (ds.map Dir.row),.list false (sub.map Sel.row)]:=by rw[← Z,Sel.row_eq]
 rw[U]
 -- behind the name
 have main:∀ (key:List Nat),key=D4 s→WC (fun n=>j1 (k8 tbl n) n (a169s9.seq (a169s16.seq a9o)) [.ptr c 0,.agg [.int .u8 k,.str al,.str nm,.str on,.list false (as.map Arg.row),.list false (ds.map Dir.row),.list false (sub.map Sel.row)],.box [.int .u8 k,.str al,.str nm,.str on,.list false (as.map Arg.row),.list false (ds.map Dir.row),.list false (sub.map Sel.row)],.ptr st.length 0,.undef,.undef,.undef,.undef] (st++[.cells [.str key]]))
  (fun o=>∃ r st',finK [] (some o)=some (r,st')∧a7M K c sn gs s st st'):=by
  intro key u;have a4:c < st.length:=(AB.1 h).1;have v:(st++[Cb.Obj.cells [.str key]])[c]?=some (.cells (C1 K sn out)):=m3 h;have Y:(st++[Cb.Obj.cells [.str key]])[st.length]?=some (.cells [.str key]):=p9 _ _;have e:GrpS c (st++[Cb.Obj.cells [.str key]]) out gs:=hG.ext fun i x _ l=>m3 l
  have t:∀ (i:Nat) x,i < c→st[i]?=some x→(st++[Cb.Obj.cells [.str key]])[i]?=some x:=fun i x _ l=>m3 l
  have O:(st++[Cb.Obj.cells [.str key]]).length=st.length+1:=by simp
  revert v Y e t O;generalize st++[Cb.Obj.cells [.str key]]=st1;intro v Y e t O;have C:c < st1.length:=by omega
  have N:∀ y:Cb.Obj,(st1.set c y)[c]?=some y:=fun y=>r7 v
  have T:∀ y:Cb.Obj,(st1.set c y)[st.length]?=some (.cells [.str key]):=fun y=>m5 Y (by omega)
  rcases e.out with⟨rfl,rfl⟩|⟨o,rfl,a5,ho,a1⟩
  · -- the first group
    have I:1*40≤2 ^ 47:=by decide
    have J:∀ a b,(st1.set c a++[b])[c]?=some a:=fun a b=>m3 (N a)
    have L:∀ a b z,((st1.set c a++[b]).set c z)[c]?=some z:=fun a b z=>r7 (J a b)
    simp only[a0J,rE,v,C1];refine wa (c0A (.func 190 [] [.ptr st.length 0]) _ rfl rfl) rfl rfl ?_;rintro _ st1 ⟨rfl,rfl⟩;simp only[a0J,rA,rL,rE,v,T,C1,show ltI (-1) 0=true from rfl,I,J,L,Ab,show n7 .i64 (a1F ((1:Nat):Int) 1)=((0:Nat):Int)from rfl];refine c76 (gs:=[]) (key:=key) (o:=st1.length) Z ?_ ?_ ?_ (by simp) (by simp) rfl u ?_ ?_
    · exact L _ _ _
    · exact C
    · exact(m5 (by have:=p9 (st1.set c (.cells (C1 K sn (.list false [])))) (.cells [.str key,.list true []]); rw[Ab]at this; exact this) (by omega))
    · intro i x hi l;exact m5 (m3 (m5 (t i x hi l) (by omega))) (by omega)
    · rw[Ab,AF,Ab]; omega
  · have a2:=hb.1;simp only[a0J,rE,v,C1];refine wa (b8f gs (by omega) key _ ho Y) rfl rfl ?_;rintro _ st1 ⟨rfl,rfl⟩;rw[u];cases hq:pI (fun g:Grp=>eqN g.key (D4 s)) gs with
    | none =>
     have a6:o < st1.length:=(AB.1 ho).1;have a0:∀ y:Cb.Obj,(st1.set c y)[o]?=some (.cells (B2 gs)):=fun y=>m5 ho (by omega)
     have M:(gs.length+1)*40≤2 ^ 47:=by omega
     have J:∀ a b x,((st1.set c a).set o x++[b])[c]?=some a:=fun a b x=>m3 (m5 (N a) (by omega))
     have L:∀ a b x z,(((st1.set c a).set o x++[b]).set c z)[c]?=some z:=fun a b x z=>r7 (J a b x)
     have hw:n7 .i64 (a1F ((gs.length+1:Nat):Int) 1)=(gs.length:Int):=by rw[subI_eq,S2 (by omega) (by omega)]; omega
     simp only[a0J,rA,rL,rE,v,T,C1,nI,show ltI (-1) 0=true from rfl,a0,a0r,M,J,L,Ab,hw];refine c76 (gs:=gs) (key:=key) (o:=st1.length) Z ?_ ?_ ?_ (fun g hg=>?_) e.nd hq u ?_ ?_
     · exact L _ _ _ _
     · exact C
     · exact(m5 (by have:=p9 ((st1.set c (.cells (C1 K sn (.sl o 0 gs.length 2)))).set o .dead) (.cells (B2 gs++[.str key,.list true []])); rw[Ab,Ab]at this; exact this) (by omega))
     · obtain⟨g1,g2⟩:=e.fs g hg;have:=d1W e hg;have:=a1 g hg;exact⟨g1,by omega,m5 (m3 (m5 (m5 g2 (by omega)) (by omega))) (by omega)⟩
     · intro i x hi l;exact m5 (m3 (m5 (m5 (t i x hi l) (by omega)) (by omega))) (by omega)
     · rw[Ab,AF,Ab,Ab]; omega
    | some i =>
     have ei:ltI (i:Int) 0=false:=by rw[ltI_eq]; simp
     simp only[a0J,rE,nI,ei];exact d36 Z v e hq hb.2 t (by omega)
 refine wj (fn:=a169) rfl rfl rfl ?_;have hn:=p9 st;simp only[a0J,rS,rE,hn,V4];refine wi (fun l=>?_) (fun l=>?_)
 · simp only[a0J,rE,hn,V4];have:=main al (by rw[W,if_neg (by intro h0; rw[h0]at l; cases l)]);simp only[a0J,rE]at this ⊢;exact this
 · simp only[a0J,rE];have:=main nm (by rw[W,if_pos (by simpa using l)]);simp only[a0J,rE]at this ⊢;exact this
end Go.Cb.CodeA
