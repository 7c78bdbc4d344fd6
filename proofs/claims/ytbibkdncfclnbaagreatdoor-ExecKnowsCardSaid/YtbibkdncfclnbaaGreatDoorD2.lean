import Derived.Test.YtbibkdncfclnbaaGreatDoorD1
set_option maxRecDepth 20000
set_option linter.all false
namespace Go.Cb.CodeA
open Go Go.Cb
open Nat renaming reduceAdd→rA,reduceSub→rS,reduceLeDiff→rL,reduceEqDiff→rE
attribute [local congr] g9 j3 j4 j5 i8 j0 j8 j9 V.runR_congr
variable {B:St}
def b5R {α:Type} (B:St) (L:List Tok) (o i:Nat) (d e:Int) (p:Option (α×Nat)) (x:α) (st':St):Prop:=∃ l d' e',Rd B L o st' l d' e'∧i≤l∧(e'=0→e=0∧i < l∧d'=d)∧(e=0→p=if e'=0 then some (x,l)else none)
def c9U (B:St) (L:List Tok) (o f:Nat):Prop:=∀ {st:St} {i:Nat} {d e:Int},Rd B L o st i d e→(e=0→0≤d∧d+f=24) →
 EvQ tbl 67 [.ptr o 0] st (fun a st'=>∃ l:List Sel,a=.list false (l.map Sel.row)∧(∀ s∈l,s.OK)∧l.length≤3000∧b5R B L o i d e (t6 L f i) l st')
def c3U (L:List Tok) (f:Nat) (e:Nat→Option (List Sel×Nat)) (al nm:List Nat) (i:Nat):Option (Sel×Nat):=l6 (R6 L f i) fun as i=>l6 (a1W L f i) fun ds i =>if a2a L i [123]then l6 (e i) fun sub j=>some (.mk 1 al nm [] as ds sub,j)else some (.mk 1 al nm [] as ds [],i)
theorem b68 (L:List Tok) (f:Nat) (e:Nat→Option (List Sel×Nat)) (i:Nat):a3T L f e i=l6 (E6 L i) fun n i=>l6 (a1l L i n) fun x i=>c3U L f e x.1 x.2 i:=rfl
theorem a6b {L:List Tok} {i:Nat} (hi:i < L.length) {k:Int} {b:Bool} (h:b=true↔(0:Int)=0∧(L[i]).k=k):a2s L i k=b:=by
 rw[a2s,AE hi];show eqI (L[i]).k k=b;rw[eqI_eq];cases b
 · simpa using h
 · simpa using h
theorem d1l {L:List Tok} {o f:Nat} (ih:c9U B L o f) {st:St} {i:Nat} {d:Int} (h:Rd B L o st i d 0) (hd:0≤d) (C:d+f=24) :
 EvQ tbl 118 [.ptr o 0] st (fun a st'=>∃ s:Sel,a=.agg s.row∧s.OK∧b5R B L o i d 0 (O8 L f (t6 L f) i) s st'):=by
 have hl:=h.hL.2;have hi:=h.hi
 -- a field, behind its name
 have tail:∀ (al nm:List Nat) (l:St) (i4:Nat) (v:Int),Rd B L o l i4 d v→i≤i4→(v=0→i < i4)→(O8 L f (t6 L f) i=if v=0 then c3U L f (t6 L f) al nm i4 else none) →
  WC (fun n=>obind (p2 (p8 156 (k8 tbl n) [AV.ptr o 0] AV.undef l))
   (H7 (H7 (a118s13_k0 (k8 tbl n) n (AV.ptr o 0) (AV.box [AV.int IntKind.u8 0,AV.str [],AV.str [],AV.str [],AV.list true [],AV.list true [],AV.list true []]) (AV.box [AV.int IntKind.u8 1,AV.str al,AV.str nm,AV.str [],AV.list true [],AV.list true [],AV.list true []]) AV.undef)
    (j1 (k8 tbl n) n (a118s15.seq (a118s19.seq (a118s21.seq ACode.ret)))))
    (j1 (k8 tbl n) n (a118s30.seq (a118s48.seq (a118s50.seq (a118s52.seq (a118s54.seq ACode.ret)))))))) (fun a5=>∃ r st',finK [ResK.bx 1 true 7] (some a5)=some (r,st')∧∃ s:Sel,r=AV.agg s.row∧s.OK∧b5R B L o i d 0 (O8 L f (t6 L f) i) s st'):=by
  intro al nm l i4 v Z b8 a2 x;refine wa (b7E L o f Z hd C) rfl rfl ?_;rintro _ c2 ⟨as,rfl,has,i5,e5,h5,c1,b0,b6⟩;simp only[O1,rA,rL,rE];refine wa (b10 L o f h5 hd C) rfl rfl ?_;rintro _ a7 ⟨ds,rfl,I,i6,e6,h6,b1,u,T⟩;simp only[O1,rA,rE];refine wa (a7S h6 _) rfl rfl ?_;rintro _ a7 ⟨rfl,b,rfl,hb,b2⟩;simp only[SS];have hS:∀ (r:Option (Sel×Nat)) (Y:Int) (s:Sel) (i7:Nat),(Y=0→e6=0)→(e6=0→(if a2a L i6 [123]then l6 (t6 L f i6) fun sub j=>some (.mk 1 al nm [] as ds sub,j)else some (.mk 1 al nm [] as ds [],i6))=if Y=0 then some (s,i7)else none)→O8 L f (t6 L f) i=if Y=0 then some (s,i7)else none:=by
   intro r Y s i7 g1 g2;rw[x];by_cases e:v=0
   · rw[if_pos e];exact A9 (b6 e) (fun h=>u (g1 h)) fun M=>A9 (T M) g1 g2
   · rw[if_neg e,if_neg (fun h=>e (b0 (u (g1 h))))]
  refine wi (fun J=>?_) (fun J=>?_)
  · obtain⟨b7,_⟩:=hb J;subst b7;simp only[O1,rA,rE];refine wa (ih h6 (fun _=>⟨hd,C⟩)) rfl rfl ?_;rintro _ c0 ⟨sub,rfl,U,a4,i7,d7,Y,h7,b5,y,a1⟩;simp only[O1,rA];refine wc ⟨_,_,rfl,.mk 1 al nm [] as ds sub,?_,.mk _ _ _ _ _ _ _ has I a4 U,i7,d7,Y,h7,by omega,fun e=>⟨rfl,?_,(y e).2.2⟩,fun _=>?_⟩
    · rw[Sel.row_eq]; rfl
    · have:=y e; omega
    · refine hS none Y _ i7 (fun _=>rfl) fun _=>?_
      rw[if_pos (by rw[← b2 rfl]; exact J)];exact A9 (a1 rfl) id fun e=>by rw[if_pos e]
  · simp only[O1,rA];refine wc ⟨_,_,rfl,.mk 1 al nm [] as ds [],?_,.mk _ _ _ _ _ _ _ has I (by simp) (by simp),i6,d,e6,h6,by omega,fun e=>⟨rfl,?_,rfl⟩,fun _=>?_⟩
    · rw[Sel.row_eq]; rfl
    · have:=u e; have:=b0 this; have:=a2 this; omega
    · refine hS none e6 _ i6 id fun e=>?_
      rw[if_pos e,if_neg (by rw[← b2 e]; intro M; rw[M]at J; cases J)]
 -- an inline fragment, behind its type
 have W:∀ (on:List Nat) (l:St) (i4:Nat) (v:Int),Rd B L o l i4 d v→i≤i4→(v=0→i < i4)→(O8 L f (t6 L f) i=if v=0 then a2D L f (t6 L f) on i4 else none) →
  WC (fun n=>obind (p2 (p8 157 (k8 tbl n) [AV.ptr o 0] AV.undef l))
   (H7 (a118s50_k0 (k8 tbl n) n (AV.ptr o 0) (AV.box [AV.int IntKind.u8 0,AV.str [],AV.str [],AV.str [],AV.list true [],AV.list true [],AV.list true []]) AV.undef (AV.box [AV.int IntKind.u8 3,AV.str [],AV.str [],AV.str on,AV.list true [],AV.list true [],AV.list true []]))
    (j1 (k8 tbl n) n (a118s52.seq (a118s54.seq ACode.ret))))) (fun a5=>∃ r st',finK [ResK.bx 1 true 7] (some a5)=some (r,st')∧∃ s:Sel,r=AV.agg s.row∧s.OK∧b5R B L o i d 0 (O8 L f (t6 L f) i) s st'):=by
  intro on l i4 v Z b8 a2 x;refine wa (b10 L o f Z hd C) rfl rfl ?_;rintro _ a7 ⟨ds,rfl,I,i6,e6,h6,b1,u,T⟩;simp only[O1,rA,rL,rE];refine wa (ih h6 (fun _=>⟨hd,C⟩)) rfl rfl ?_;rintro _ c0 ⟨sub,rfl,U,a4,i7,d7,Y,h7,b5,y,a1⟩;simp only[O1,rA];refine wc ⟨_,_,rfl,.mk 3 [] [] on [] ds sub,?_,.mk _ _ _ _ _ _ _ a4v I a4 U,i7,d7,Y,h7,by omega,fun e=>⟨rfl,?_,(y e).2.2⟩,fun _=>?_⟩
  · rw[Sel.row_eq]; rfl
  · have:=y e; have:=a2 (u this.1); omega
  · rw[x];by_cases e:v=0
    · rw[if_pos e];exact A9 (T e) (fun h=>(y h).1) fun M=>A9 (a1 M) id fun e=>by rw[if_pos e]
    · rw[if_neg e,if_neg (fun h=>e (u (y h).1))]
 refine wj (fn:=a118) rfl rfl rfl ?_;simp only[O1,rS,rE];refine wa (E9 h _) rfl rfl ?_;rintro _ st1 (⟨rfl,rfl,hE⟩|⟨rfl,_,M,hE⟩)
 · have hE:=hE rfl;have x:O8 L f (t6 L f) i=a3T L f (t6 L f) i:=by rw[O8,hE,if_neg (by decide)]
   rw[b68]at x;simp only[O1,rA,rL,rE];refine wa (O9 h) rfl rfl ?_;rintro _ st2 ⟨t,rfl,i2,e2,h2,b3,b4,a0⟩;have a0:=a0 rfl;simp only[O1,rA,rE];refine wa (E9 h2 _) rfl rfl ?_;rintro _ a6 (⟨rfl,rfl,z⟩|⟨rfl,rfl,h3,z⟩)
   · simp only[O1];refine tail [] t a6 i2 e2 h2 b3 (fun h=>(b4 h).2) ?_;rw[x,a0];by_cases e:e2=0
     · rw[if_pos e,if_pos e];show l6 (a1l L i2 t) _=_;rw[a1l,z e,if_neg (by decide)];rfl
     · rw[if_neg e,if_neg e]; rfl
   · simp only[O1,rA,rL,rE];refine wa (O9 h3) rfl rfl ?_;rintro _ l ⟨m,rfl,i4,v,Z,a9,N,O⟩;simp only[O1,rA];refine tail t m l i4 v Z (by omega) (fun h=>by have:=N h; omega) ?_;rw[x,a0,if_pos rfl];show l6 (a1l L i2 t) _=_;rw[a1l,z,if_pos rfl,O rfl];by_cases e:v=0
     · rw[if_pos e,if_pos e];rfl
     · rw[if_neg e,if_neg e]; rfl
 · have x:O8 L f (t6 L f) i=(if C0 L (i+1) [111,110]then l6 (E6 L (i+1+1)) fun on i=>a2D L f (t6 L f) on i
   else if a2s L (i+1) 1 then l6 (E6 L (i+1)) fun n i=>l6 (a1W L f i) fun ds j=>some (.mk 2 [] n [] [] ds [],j)
   else a2D L f (t6 L f) [] (i+1)):=by rw[O8,hE,if_pos rfl]
   simp only[O1,rA,rL,rE];refine wa (E9 M _) rfl rfl ?_;rintro _ a6 (⟨rfl,rfl,z⟩|⟨rfl,_,h3,z⟩)
   · rw[z rfl,if_neg (by decide)]at x;simp only[O1,rE];refine wa (a7U M 1) rfl rfl ?_;rintro _ a6 ⟨rfl,b,rfl,hb⟩;rw[a6b M.hi hb]at x;simp only[SS];refine wi (fun J=>?_) (fun J=>?_)
     · have J:b=true:=J;rw[J,if_pos rfl]at x;simp only[O1,rA,rL,rE];refine wa (O9 M) rfl rfl ?_;rintro _ l ⟨m,rfl,i4,v,Z,a9,N,O⟩;simp only[O1,rA,rL,rE];refine wa (b10 L o f Z hd C) rfl rfl ?_;rintro _ a7 ⟨ds,rfl,I,i6,e6,h6,b1,u,T⟩;simp only[O1,rA];refine wc ⟨_,_,rfl,.mk 2 [] m [] [] ds [],?_,.mk _ _ _ _ _ _ _ a4v I (by simp) (by simp),i6,d,e6,h6,by omega,fun e=>⟨rfl,?_,rfl⟩,fun _=>?_⟩
       · rw[Sel.row_eq]; rfl
       · have:=N (u e); omega
       · rw[x];exact A9 (O rfl) u fun e=>A9 (T e) id fun e=>by rw[if_pos e]
     · have J:b=false:=J;rw[J,if_neg (by decide)]at x;simp only[O1];exact W [] _ (i+1) 0 M (by omega) (fun _=>by omega) (by rw[x,if_pos rfl])
   · rw[z,if_pos rfl]at x;simp only[O1,rA,rL,rE];refine wa (O9 h3) rfl rfl ?_;rintro _ l ⟨m,rfl,i4,v,Z,a9,N,O⟩;simp only[O1,rA];refine W m l i4 v Z (by omega) (fun h=>by have:=N h; omega) ?_;rw[x,O rfl];by_cases e:v=0
     · rw[if_pos e,if_pos e]; rfl
     · rw[if_neg e,if_neg e]; rfl
theorem b8D (L:List Tok) (i:Nat):t6 L 0 i=none:=by rw[t6]
theorem b7I (L:List Tok) (f i:Nat):t6 L (f+1) i=a0v (R7 L [123] i) fun i=>C7 (W9 L (O8 L f (t6 L f))) 2002 i []:=by rw[t6]
abbrev d3t (B:St) (L:List Tok) (o i:Nat) (d:Int) (f:Nat) (w:Option (List Sel×Nat)) (mm:Nat) (fr:List AV) (st':St):Prop:=∃ (i':Nat) (d' e':Int) (l:List Sel) (v3:AV),Rd B L o st' i' d' e'∧i≤i'∧(e'=0→d'=d+1∧i < i')∧(∀ a∈l,a.OK)∧mm=rem L i' e'∧l.length+mm≤L.length∧LoopAt (W9 L (O8 L f (t6 L f))) w i' l e' ∧
 fr=[.ptr o 0,.list true [],.list true (l.map Sel.row),v3]
theorem c2N (L:List Tok) (o:Nat):∀ f,c9U B L o f:=by
 intro f;induction f with
 | zero =>
  intro st i d e h hd;have hl:=h.hL.2;obtain⟨bad,U⟩:=h.ob;have hs:∀ y:Obj,(st.set o y)[o]?=some y:=fun y=>r7 U
  refine wj (fn:=a67) rfl rfl rfl ?_;by_cases t:e=0
  · subst t;obtain⟨I,a9⟩:=hd rfl;simp only[K67,rS,rE,U,rdC,show eqI 0 0=true from rfl];refine wa (a3I h I (by omega)) rfl rfl ?_;rintro _ st1 ⟨e1,rfl,h1,x⟩;have t:e1≠0:=fun h0=>by have:=x.1 h0; omega
    have O:eqI e1 0=false:=by rw[eqI_eq]; simpa using t
    obtain⟨b5,a2⟩:=h1.ob;have c7:∀ y:Obj,(st1.set o y)[o]?=some y:=fun y=>r7 a2
    simp only[K67,rA,rL,rE,O,a2,rdC];exact wc ⟨_,_,rfl,[],rfl,by simp,by simp,i,_,e1,h1.put h1.hi,AK _,(fun h=>absurd h t),fun _=>by rw[if_neg t,b8D]⟩
  · have O:eqI e 0=false:=by rw[eqI_eq]; simpa using t
    simp only[K67,rA,rS,rL,rE,O,U,rdC];exact wc ⟨_,_,rfl,[],rfl,by simp,by simp,i,_,e,h.put h.hi,AK _,(fun h=>absurd h t),fun h0=>absurd h0 t⟩
 | succ f ih =>
  intro st i d e h hd;have hl:=h.hL.2;obtain⟨bad,U⟩:=h.ob;have hs:∀ y:Obj,(st.set o y)[o]?=some y:=fun y=>r7 U
  refine wj (fn:=a67) rfl rfl rfl ?_;by_cases t:e=0
  rotate_left
  · have O:eqI e 0=false:=by rw[eqI_eq]; simpa using t
    simp only[K67,rA,rS,rL,rE,O,U,rdC];exact wc ⟨_,_,rfl,[],rfl,by simp,by simp,i,_,e,h.put h.hi,AK _,(fun h=>absurd h t),fun h0=>absurd h0 t⟩
  subst t;obtain⟨I,a9⟩:=hd rfl;simp only[K67,rS,rE,U,rdC,show eqI 0 0=true from rfl];refine wa (a3I h I (by omega)) rfl rfl ?_;rintro _ st1 ⟨e1,rfl,h1,x⟩;have x:e1=0:=x.2 ⟨rfl,by omega⟩;subst x;simp only[K67,show eqI 0 0=true from rfl];refine wa (a2w h1 _) rfl rfl ?_;rintro _ st2 ⟨i2,e2,h2,a5,a6,a7⟩;have b3:∃ w,w=(if e2=0 then C7 (W9 L (O8 L f (t6 L f))) 2002 i2 []else none):=⟨_,rfl⟩
  obtain⟨w,hw⟩:=b3;have hA:t6 L (f+1) i=w:=by
   rw[b7I,a7 rfl,hw];by_cases h0:e2=0
   · rw[if_pos h0,if_pos h0]; rfl
   · rw[if_neg h0,if_neg h0]; rfl
  simp only[SS];refine wg (d3t B L o i d f w) (m:=rem L i2 e2) ⟨i2,d+1,e2,[],_,h2,a5,(fun h=>⟨rfl,(a6 h).2⟩),by simp,rfl,by simpa using a2o L i2 e2,LoopAt.start _ _ _ _ hw,rfl⟩ ?_;rintro mm fr st' ⟨i',d',e',l,v3,hr,b2,b0,T,c4,b7,N,rfl⟩;obtain⟨bad',J⟩:=hr.ob;have c6:∀ y:Obj,(st'.set o y)[o]?=some y:=fun y=>r7 J
  have c2:=hr.hi;by_cases v:e'=0
  rotate_left
  · have O:eqI e' 0=false:=by rw[eqI_eq]; simpa using v
    simp only[K67,rE,J,rdC,O];refine we ?_;simp only[K67,rA,rL,rE,J,rdC];exact wc ⟨_,_,rfl,l,rfl,T,by omega,i',_,e',hr.put hr.hi,b2,(fun h=>absurd h v),fun _=>by rw[hA,if_neg v]; exact N.bad v⟩
  subst v;obtain⟨rfl,b8⟩:=b0 rfl;simp only[K67,rA,rE,J,rdC,show eqI 0 0=true from rfl];refine wa (d1l ih hr (by omega) (by omega)) rfl rfl ?_;rintro _ d0 ⟨s,rfl,M,i4,d4,e4,h4,c1,u,C⟩;have C:=C rfl;have c3:rem L i4 e4 < rem L i' 0:=a1r rfl hr.hi (fun h0=>(u h0).2.1);have b1:(l.length+1)*128≤2 ^ 47:=by omega
  obtain⟨sk,W,a0,a1,Y,Z,z⟩:=s;simp only[K67,rA,rE,Sel.row_eq,a9h,AG,b1];refine wa (E9 h4 _) rfl rfl ?_;rintro _ b4 (⟨rfl,rfl,hE⟩|⟨rfl,rfl,h5,hE⟩)
  · simp only[SS];refine wd (m':=rem L i4 e4) (by omega) ⟨i4,d4,e4,l++[.mk sk W a0 a1 Y Z z],.box [.int .u8 sk,.str W,.str a0,.str a1,.list false (Y.map Arg.row),.list false (Z.map Dir.row),.list false (z.map Sel.row)],h4,by omega,(fun h0=>⟨(u h0).2.2,by have:=(u h0).2.1; omega⟩),fun a ha=>?_,rfl,by simp only[AF,AY,List.length_nil]; omega,N.next (by omega) (fun h0=>(u h0).2.1) ?_,?_⟩
    · rcases AQ.1 ha with h0|h0
      · exact T a h0
      · simp at h0; subst h0; exact M
    · rw[W9];exact A9 C id fun h0=>by rw[if_pos h0,hE h0,if_neg (by decide)]
    · simp only[AW,AH,AM,Sel.row_eq]
  · obtain⟨_,c0,rfl⟩:=u rfl;obtain⟨b6,a4⟩:=h5.ob;have c8:∀ y:Obj,(b4.set o y)[o]?=some y:=fun y=>r7 a4
    simp only[SS,rE];refine we ?_;simp only[K67,rA,rL,rE,a4,rdC,a7T I (show d≤100 by omega)];refine wc ⟨_,_,rfl,l++[.mk sk W a0 a1 Y Z z],?_,fun a ha=>?_,?_,i4+1,d,0,h5.put h5.hi,by omega,(fun _=>⟨rfl,by omega,rfl⟩),fun _=>?_⟩
    · simp only[AW,AH,AM,Sel.row_eq];rfl
    · rcases AQ.1 ha with h0|h0
      · exact T a h0
      · simp at h0; subst h0; exact M
    · simp only[AF,AY,List.length_nil];have:0 < rem L i' 0:=by rw[b2j]; omega
      omega
    · rw[hA,if_pos rfl];refine N.exit (by omega) ?_;rw[W9,C,if_pos rfl];show(if C0 L i4 [125]then _ else _)=_;rw[hE,if_pos rfl]
end Go.Cb.CodeA
