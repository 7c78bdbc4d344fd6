import Derived.Test.YthnliekianmljaaGreatDoorD1
set_option maxRecDepth 20000
set_option linter.unusedSimpArgs false
set_option linter.unusedVariables false
namespace Go.Cb.CodeA
open Go Go.Cb
open Nat renaming reduceAdd → rA,reduceSub → rS,reduceLeDiff → rL,reduceEqDiff → rE
attribute [local congr] i8 k4 k6 k7 j4 j3 l8 l7 V.runR_congr
variable {B:St}

/-- on; behind a fault the depth may be any -/
def b37 {α:Type} (B:St) (L:List Tok) (o i:Nat) (d e:Int) (p:Option (α×Nat)) (x:α) (st':St):Prop:=∃ i' d' e',Rd B L o st' i' d' e'∧i≤i'∧(e'=0→e=0∧i < i'∧d'=d)∧(e=0→p=if e'=0 then some (x,i') else none)
def c5V (B:St) (L:List Tok) (o f:Nat):Prop:=∀ {st:St} {i:Nat} {d e:Int},Rd B L o st i d e→(e=0→0≤d∧d+f=24) →
 EvQ tbl 23 [.ptr o 0] st (fun a st'=>∃ l:List Sel,a=.list false (l.map Sel.row)∧(∀ s∈l,s.OK)∧l.length≤3000∧b37 B L o i d e (q9 L f i) l st')
def b88 (L:List Tok) (f:Nat) (sP:Nat→Option (List Sel×Nat)) (al nm:List Nat) (i:Nat):Option (Sel×Nat):=j0 (P3 L f i) fun as i=>j0 (Z0 L f i) fun ds i =>
 if Z6 L i [123] then j0 (sP i) fun sub j=>some (.mk 1 al nm [] as ds sub,j) else some (.mk 1 al nm [] as ds [],i)
theorem b5Q (L:List Tok) (f:Nat) (sP:Nat→Option (List Sel×Nat)) (i:Nat):a06 L f sP i=j0 (t7 L i) fun n i=>j0 (W2 L i n) fun x i=>b88 L f sP x.1 x.2 i:=rfl
theorem a2X {L:List Tok} {i:Nat} (hi:i < L.length) {k:Int} {b:Bool} (h:b=true ↔ (0:Int)=0∧(L[i]).k=k):a0j L i k=b:=by
 rw [a0j,List.getElem?_eq_getElem hi]
 show eqI (L[i]).k k=b
 rw [eqI_eq]
 cases b
 · simpa using h
 · simpa using h
theorem d4G {L:List Tok} {o f:Nat} (ih:c5V B L o f) {st:St} {i:Nat} {d:Int} (h:Rd B L o st i d 0) (hd:0≤d) (hd2:d+f=24) :
 EvQ tbl 40 [.ptr o 0] st (fun a st'=>∃ s:Sel,a=.agg s.row∧s.OK∧b37 B L o i d 0 (I7 L f (q9 L f) i) s st'):=by
 have hl:=h.hL.2
 have hi:=h.hi
 -- a field, behind its name
 have tail:∀ (al nm:List Nat) (st4:St) (i4:Nat) (e4:Int),Rd B L o st4 i4 d e4→i≤i4→(e4=0→i < i4)→(I7 L f (q9 L f) i=if e4=0 then b88 L f (q9 L f) al nm i4 else none) →
  WC (fun n=>obind (p2 (n4 68 (e8 tbl n) [AV.ptr o 0] AV.undef st4))
   (C7 (C7 (a40s13_k0 (e8 tbl n) n (AV.ptr o 0) (AV.box [AV.int IntKind.u8 0,AV.str [],AV.str [],AV.str [],AV.list true [],AV.list true [],AV.list true []]) (AV.box [AV.int IntKind.u8 1,AV.str al,AV.str nm,AV.str [],AV.list true [],AV.list true [],AV.list true []]) AV.undef)
    (d8 (e8 tbl n) n (a40s15.seq (a40s19.seq (a40s21.seq ACode.ret)))))
    (d8 (e8 tbl n) n (a40s30.seq (a40s48.seq (a40s50.seq (a40s52.seq (a40s54.seq ACode.ret)))))))) (fun o_1=>∃ r st',finK [ResK.bx 1 true 7] (some o_1)=some (r,st')∧∃ s:Sel,r=AV.agg s.row∧s.OK∧b37 B L o i d 0 (I7 L f (q9 L f) i) s st'):=by
  intro al nm st4 i4 e4 h4 hi4 he4 hP
  refine WC.call (b44 L o f h4 hd hd2) rfl rfl ?_
  rintro _ st5 ⟨as,rfl,has,i5,e5,h5,h5a,h5b,hX5⟩
  simp +contextual -implicitDefEqProofs only [K40,SS,rA,rS,rL,rE,reduceCtorEq]
  refine WC.call (a9g L o f h5 hd hd2) rfl rfl ?_
  rintro _ st6 ⟨ds,rfl,hds,i6,e6,h6,h6a,h6b,hX6⟩
  simp +contextual -implicitDefEqProofs only [K40,SS,rA,rS,rL,rE,reduceCtorEq]
  refine WC.call (a5J h6 _) rfl rfl ?_
  rintro _ st6 ⟨rfl,b,rfl,hb,hbs⟩
  simp +contextual -implicitDefEqProofs only [K40,SS,rA,rS,rL,rE,reduceCtorEq]
  have hS:∀ (r:Option (Sel×Nat)) (e7:Int) (s:Sel) (i7:Nat),(e7=0→e6=0)→(e6=0→(if Z6 L i6 [123] then j0 (q9 L f i6) fun sub j=>some (.mk 1 al nm [] as ds sub,j) else some (.mk 1 al nm [] as ds [],i6))=if e7=0 then some (s,i7) else none)→I7 L f (q9 L f) i=if e7=0 then some (s,i7) else none:=by
   intro r e7 s i7 g1 g2
   rw [hP]
   by_cases h0:e4=0
   · rw [if_pos h0]
     exact r7 (hX5 h0) (fun h=>h6b (g1 h)) fun h1=>r7 (hX6 h1) g1 g2
   · rw [if_neg h0,if_neg (fun h=>h0 (h5b (h6b (g1 h))))]
  refine WC.br (fun hk=>?_) (fun hk=>?_)
  · obtain ⟨he6,_⟩:=hb hk
    subst he6
    simp +contextual -implicitDefEqProofs only [K40,SS,rA,rS,rL,rE,reduceCtorEq]
    refine WC.call (ih h6 (fun _=>⟨hd,hd2⟩)) rfl rfl ?_
    rintro _ st7 ⟨sub,rfl,hsub,hsl,i7,d7,e7,h7,h7a,h7b,hX7⟩
    simp +contextual -implicitDefEqProofs only [K40,SS,rA,rS,rL,rE,reduceCtorEq]
    refine WC.ret ⟨_,_,rfl,.mk 1 al nm [] as ds sub,?_,.mk _ _ _ _ _ _ _ has hds hsl hsub,i7,d7,e7,h7,by omega,fun h0=>⟨rfl,?_,(h7b h0).2.2⟩,fun _=>?_⟩
    · rw [Sel.row_eq]; rfl
    · have:=h7b h0; omega
    · refine hS none e7 _ i7 (fun _=>rfl) fun _=>?_
      rw [if_pos (by rw [← hbs rfl]; exact hk)]
      exact r7 (hX7 rfl) id fun h0=>by rw [if_pos h0]
  · simp +contextual -implicitDefEqProofs only [K40,SS,rA,rS,rL,rE,reduceCtorEq]
    refine WC.ret ⟨_,_,rfl,.mk 1 al nm [] as ds [],?_,.mk _ _ _ _ _ _ _ has hds (by simp) (by simp),i6,d,e6,h6,by omega,fun h0=>⟨rfl,?_,rfl⟩,fun _=>?_⟩
    · rw [Sel.row_eq]; rfl
    · have:=h6b h0; have:=h5b this; have:=he4 this; omega
    · refine hS none e6 _ i6 id fun h0=>?_
      rw [if_pos h0,if_neg (by rw [← hbs h0]; intro h1; rw [h1] at hk; cases hk)]
 -- an inline fragment, behind its type
 have itail:∀ (on:List Nat) (st4:St) (i4:Nat) (e4:Int),Rd B L o st4 i4 d e4→i≤i4→(e4=0→i < i4)→(I7 L f (q9 L f) i=if e4=0 then a0n L f (q9 L f) on i4 else none) →
  WC (fun n=>obind (p2 (n4 69 (e8 tbl n) [AV.ptr o 0] AV.undef st4))
   (C7 (a40s50_k0 (e8 tbl n) n (AV.ptr o 0) (AV.box [AV.int IntKind.u8 0,AV.str [],AV.str [],AV.str [],AV.list true [],AV.list true [],AV.list true []]) AV.undef (AV.box [AV.int IntKind.u8 3,AV.str [],AV.str [],AV.str on,AV.list true [],AV.list true [],AV.list true []]))
    (d8 (e8 tbl n) n (a40s52.seq (a40s54.seq ACode.ret))))) (fun o_1=>∃ r st',finK [ResK.bx 1 true 7] (some o_1)=some (r,st')∧∃ s:Sel,r=AV.agg s.row∧s.OK∧b37 B L o i d 0 (I7 L f (q9 L f) i) s st'):=by
  intro on st4 i4 e4 h4 hi4 he4 hP
  refine WC.call (a9g L o f h4 hd hd2) rfl rfl ?_
  rintro _ st6 ⟨ds,rfl,hds,i6,e6,h6,h6a,h6b,hX6⟩
  simp +contextual -implicitDefEqProofs only [K40,SS,rA,rS,rL,rE,reduceCtorEq]
  refine WC.call (ih h6 (fun _=>⟨hd,hd2⟩)) rfl rfl ?_
  rintro _ st7 ⟨sub,rfl,hsub,hsl,i7,d7,e7,h7,h7a,h7b,hX7⟩
  simp +contextual -implicitDefEqProofs only [K40,SS,rA,rS,rL,rE,reduceCtorEq]
  refine WC.ret ⟨_,_,rfl,.mk 3 [] [] on [] ds sub,?_,.mk _ _ _ _ _ _ _ a1u hds hsl hsub,i7,d7,e7,h7,by omega,fun h0=>⟨rfl,?_,(h7b h0).2.2⟩,fun _=>?_⟩
  · rw [Sel.row_eq]; rfl
  · have:=h7b h0; have:=he4 (h6b this.1); omega
  · rw [hP]
    by_cases h0:e4=0
    · rw [if_pos h0]
      exact r7 (hX6 h0) (fun h=>(h7b h).1) fun h1=>r7 (hX7 h1) id fun h0=>by rw [if_pos h0]
    · rw [if_neg h0,if_neg (fun h=>h0 (h6b (h7b h).1))]
 refine EvQ.body (fn:=a40) rfl rfl rfl ?_
 simp +contextual -implicitDefEqProofs only [K40,SS,rA,rS,rL,rE,reduceCtorEq]
 refine WC.call (z9 h _) rfl rfl ?_
 rintro _ st1 (⟨rfl,rfl,hE⟩|⟨rfl,_,h1,hE⟩)
 · have hE:=hE rfl
   have hP:I7 L f (q9 L f) i=a06 L f (q9 L f) i:=by rw [I7,hE,if_neg (by decide)]
   rw [b5Q] at hP
   simp +contextual -implicitDefEqProofs only [K40,SS,rA,rS,rL,rE,reduceCtorEq]
   refine WC.call (H8 h) rfl rfl ?_
   rintro _ st2 ⟨t,rfl,i2,e2,h2,h2a,h2b,hX2⟩
   have hX2:=hX2 rfl
   simp +contextual -implicitDefEqProofs only [K40,SS,rA,rS,rL,rE,reduceCtorEq]
   refine WC.call (z9 h2 _) rfl rfl ?_
   rintro _ st3 (⟨rfl,rfl,hE3⟩|⟨rfl,rfl,h3,hE3⟩)
   · simp +contextual -implicitDefEqProofs only [K40,SS,rA,rS,rL,rE,reduceCtorEq]
     refine tail [] t st3 i2 e2 h2 h2a (fun h=>(h2b h).2) ?_
     rw [hP,hX2]
     by_cases h0:e2=0
     · rw [if_pos h0,if_pos h0]
       show j0 (W2 L i2 t) _=_
       rw [W2,hE3 h0,if_neg (by decide)]
       rfl
     · rw [if_neg h0,if_neg h0]; rfl
   · simp +contextual -implicitDefEqProofs only [K40,SS,rA,rS,rL,rE,reduceCtorEq]
     refine WC.call (H8 h3) rfl rfl ?_
     rintro _ st4 ⟨m,rfl,i4,e4,h4,h4a,h4b,hX4⟩
     simp +contextual -implicitDefEqProofs only [K40,SS,rA,rS,rL,rE,reduceCtorEq]
     refine tail t m st4 i4 e4 h4 (by omega) (fun h=>by have:=h4b h; omega) ?_
     rw [hP,hX2,if_pos rfl]
     show j0 (W2 L i2 t) _=_
     rw [W2,hE3,if_pos rfl,hX4 rfl]
     by_cases h0:e4=0
     · rw [if_pos h0,if_pos h0]
       rfl
     · rw [if_neg h0,if_neg h0]; rfl
 · have hP:I7 L f (q9 L f) i=(if s8 L (i+1) [111,110] then j0 (t7 L (i+1+1)) fun on i=>a0n L f (q9 L f) on i
   else if a0j L (i+1) 1 then j0 (t7 L (i+1)) fun n i=>j0 (Z0 L f i) fun ds j=>some (.mk 2 [] n [] [] ds [],j)
   else a0n L f (q9 L f) [] (i+1)):=by rw [I7,hE,if_pos rfl]
   simp +contextual -implicitDefEqProofs only [K40,SS,rA,rS,rL,rE,reduceCtorEq]
   refine WC.call (z9 h1 _) rfl rfl ?_
   rintro _ st3 (⟨rfl,rfl,hE3⟩|⟨rfl,_,h3,hE3⟩)
   · rw [hE3 rfl,if_neg (by decide)] at hP
     simp +contextual -implicitDefEqProofs only [K40,SS,rA,rS,rL,rE,reduceCtorEq]
     refine WC.call (a5b h1 1) rfl rfl ?_
     rintro _ st3 ⟨rfl,b,rfl,hb⟩
     rw [a2X h1.hi hb] at hP
     simp +contextual -implicitDefEqProofs only [K40,SS,rA,rS,rL,rE,reduceCtorEq]
     refine WC.br (fun hk=>?_) (fun hk=>?_)
     · have hk:b=true:=hk
       rw [hk,if_pos rfl] at hP
       simp +contextual -implicitDefEqProofs only [K40,SS,rA,rS,rL,rE,reduceCtorEq]
       refine WC.call (H8 h1) rfl rfl ?_
       rintro _ st4 ⟨m,rfl,i4,e4,h4,h4a,h4b,hX4⟩
       simp +contextual -implicitDefEqProofs only [K40,SS,rA,rS,rL,rE,reduceCtorEq]
       refine WC.call (a9g L o f h4 hd hd2) rfl rfl ?_
       rintro _ st6 ⟨ds,rfl,hds,i6,e6,h6,h6a,h6b,hX6⟩
       simp +contextual -implicitDefEqProofs only [K40,SS,rA,rS,rL,rE,reduceCtorEq]
       refine WC.ret ⟨_,_,rfl,.mk 2 [] m [] [] ds [],?_,.mk _ _ _ _ _ _ _ a1u hds (by simp) (by simp),i6,d,e6,h6,by omega,fun h0=>⟨rfl,?_,rfl⟩,fun _=>?_⟩
       · rw [Sel.row_eq]; rfl
       · have:=h4b (h6b h0); omega
       · rw [hP]
         exact r7 (hX4 rfl) h6b fun h0=>r7 (hX6 h0) id fun h0=>by rw [if_pos h0]
     · have hk:b=false:=hk
       rw [hk,if_neg (by decide)] at hP
       simp +contextual -implicitDefEqProofs only [K40,SS,rA,rS,rL,rE,reduceCtorEq]
       exact itail [] _ (i+1) 0 h1 (by omega) (fun _=>by omega) (by rw [hP,if_pos rfl])
   · rw [hE3,if_pos rfl] at hP
     simp +contextual -implicitDefEqProofs only [K40,SS,rA,rS,rL,rE,reduceCtorEq]
     refine WC.call (H8 h3) rfl rfl ?_
     rintro _ st4 ⟨m,rfl,i4,e4,h4,h4a,h4b,hX4⟩
     simp +contextual -implicitDefEqProofs only [K40,SS,rA,rS,rL,rE,reduceCtorEq]
     refine itail m st4 i4 e4 h4 (by omega) (fun h=>by have:=h4b h; omega) ?_
     rw [hP,hX4 rfl]
     by_cases h0:e4=0
     · rw [if_pos h0,if_pos h0]; rfl
     · rw [if_neg h0,if_neg h0]; rfl

theorem b51 (L:List Tok) (i:Nat):q9 L 0 i=none:=by rw [q9]
theorem b48 (L:List Tok) (f i:Nat):q9 L (f+1) i=T0 (K2 L [123] i) fun i=>t8 (O1 L (I7 L f (q9 L f))) 2002 i []:=by rw [q9]
abbrev d8g (B:St) (L:List Tok) (o i:Nat) (d:Int) (f:Nat) (w:Option (List Sel×Nat)) (mm:Nat) (fr:List AV) (st':St):Prop:=∃ (i':Nat) (d' e':Int) (l:List Sel) (v3:AV),Rd B L o st' i' d' e'∧i≤i'∧(e'=0→d'=d+1∧i < i')∧(∀ a∈l,a.OK)∧mm=rem L i' e'∧l.length+mm≤L.length∧LoopAt (O1 L (I7 L f (q9 L f))) w i' l e' ∧
 fr=[.ptr o 0,.list true [],.list true (l.map Sel.row),v3]
theorem b8F (L:List Tok) (o:Nat):∀ f,c5V B L o f:=by
 intro f
 induction f with
 | zero =>
  intro st i d e h hd
  have hl:=h.hL.2
  obtain ⟨bad,ho⟩:=h.ob
  have hs:∀ y:Obj,(st.set o y)[o]?=some y:=fun y=>m9 ho
  refine EvQ.body (fn:=a23) rfl rfl rfl ?_
  by_cases he:e=0
  · subst he
    obtain ⟨hd1,hd2⟩:=hd rfl
    simp +contextual -implicitDefEqProofs only [K23,SS,rA,rS,rL,rE,reduceCtorEq,ho,rdC,show eqI 0 0=true from rfl]
    refine WC.call (a08 h hd1 (by omega)) rfl rfl ?_
    rintro _ st1 ⟨e1,rfl,h1,he1⟩
    have he:e1≠0:=fun h0=>by have:=he1.1 h0; omega
    have hf:eqI e1 0=false:=by rw [eqI_eq]; simpa using he
    obtain ⟨bad1,ho1⟩:=h1.ob
    have hs1:∀ y:Obj,(st1.set o y)[o]?=some y:=fun y=>m9 ho1
    simp +contextual -implicitDefEqProofs only [K23,SS,rA,rS,rL,rE,reduceCtorEq,hf,ho1,rdC,hs1]
    exact WC.ret ⟨_,_,rfl,[],rfl,by simp,by simp,i,_,e1,h1.put h1.hi,Nat.le_refl _,(fun h=>absurd h he),fun _=>by rw [if_neg he,b51]⟩
  · have hf:eqI e 0=false:=by rw [eqI_eq]; simpa using he
    simp +contextual -implicitDefEqProofs only [K23,SS,rA,rS,rL,rE,reduceCtorEq,hf,ho,rdC,hs]
    exact WC.ret ⟨_,_,rfl,[],rfl,by simp,by simp,i,_,e,h.put h.hi,Nat.le_refl _,(fun h=>absurd h he),fun h0=>absurd h0 he⟩
 | succ f ih =>
  intro st i d e h hd
  have hl:=h.hL.2
  obtain ⟨bad,ho⟩:=h.ob
  have hs:∀ y:Obj,(st.set o y)[o]?=some y:=fun y=>m9 ho
  refine EvQ.body (fn:=a23) rfl rfl rfl ?_
  by_cases he:e=0
  rotate_left
  · have hf:eqI e 0=false:=by rw [eqI_eq]; simpa using he
    simp +contextual -implicitDefEqProofs only [K23,SS,rA,rS,rL,rE,reduceCtorEq,hf,ho,rdC,hs]
    exact WC.ret ⟨_,_,rfl,[],rfl,by simp,by simp,i,_,e,h.put h.hi,Nat.le_refl _,(fun h=>absurd h he),fun h0=>absurd h0 he⟩
  subst he
  obtain ⟨hd1,hd2⟩:=hd rfl
  simp +contextual -implicitDefEqProofs only [K23,SS,rA,rS,rL,rE,reduceCtorEq,ho,rdC,show eqI 0 0=true from rfl]
  refine WC.call (a08 h hd1 (by omega)) rfl rfl ?_
  rintro _ st1 ⟨e1,rfl,h1,he1⟩
  have he1:e1=0:=he1.2 ⟨rfl,by omega⟩
  subst he1
  simp +contextual -implicitDefEqProofs only [K23,SS,rA,rS,rL,rE,reduceCtorEq,show eqI 0 0=true from rfl]
  refine WC.call (a0i h1 _) rfl rfl ?_
  rintro _ st2 ⟨i2,e2,h2,h2a,h2b,hX2⟩
  have hw0:∃ w,w=(if e2=0 then t8 (O1 L (I7 L f (q9 L f))) 2002 i2 [] else none):=⟨_,rfl⟩
  obtain ⟨w,hw⟩:=hw0
  have hA:q9 L (f+1) i=w:=by
   rw [b48,hX2 rfl,hw]
   by_cases h0:e2=0
   · rw [if_pos h0,if_pos h0]; rfl
   · rw [if_neg h0,if_neg h0]; rfl
  simp +contextual -implicitDefEqProofs only [K23,SS,rA,rS,rL,rE,reduceCtorEq]
  refine WC.loopR (d8g B L o i d f w) (m:=rem L i2 e2) ⟨i2,d+1,e2,[],_,h2,h2a,(fun h=>⟨rfl,(h2b h).2⟩),by simp,rfl,by simpa using a0y L i2 e2,LoopAt.start _ _ _ _ hw,rfl⟩ ?_
  rintro mm fr st' ⟨i',d',e',l,v3,hr,hi',hde,hl',hmm,hlen,hLo,rfl⟩
  obtain ⟨bad',ho'⟩:=hr.ob
  have hs':∀ y:Obj,(st'.set o y)[o]?=some y:=fun y=>m9 ho'
  have hi2:=hr.hi
  by_cases he0:e'=0
  rotate_left
  · have hf:eqI e' 0=false:=by rw [eqI_eq]; simpa using he0
    simp +contextual -implicitDefEqProofs only [K23,SS,rA,rS,rL,rE,reduceCtorEq,ho',rdC,hf]
    refine WC.leave ?_
    simp +contextual -implicitDefEqProofs only [K23,SS,rA,rS,rL,rE,reduceCtorEq,ho',rdC,hs']
    exact WC.ret ⟨_,_,rfl,l,rfl,hl',by omega,i',_,e',hr.put hr.hi,hi',(fun h=>absurd h he0),fun _=>by rw [hA,if_neg he0]; exact hLo.bad he0⟩
  subst he0
  obtain ⟨rfl,hlt'⟩:=hde rfl
  simp +contextual -implicitDefEqProofs only [K23,SS,rA,rS,rL,rE,reduceCtorEq,ho',rdC,show eqI 0 0=true from rfl]
  refine WC.call (d4G ih hr (by omega) (by omega)) rfl rfl ?_
  rintro _ st4 ⟨s,rfl,hsOK,i4,d4,e4,h4,h4a,h4b,hX4⟩
  have hX4:=hX4 rfl
  have hlt:rem L i4 e4 < rem L i' 0:=X2 rfl hr.hi (fun h0=>(h4b h0).2.1)
  have hfr:(l.length+1)*128≤2 ^ 47:=by omega
  obtain ⟨sk,sal,snm,son,sas,sds,ssub⟩:=s
  simp +contextual -implicitDefEqProofs only [K23,SS,rA,rS,rL,rE,reduceCtorEq,Sel.row_eq,a7d,List.length_map,hfr]
  refine WC.call (z9 h4 _) rfl rfl ?_
  rintro _ st5 (⟨rfl,rfl,hE⟩|⟨rfl,rfl,h5,hE⟩)
  · simp +contextual -implicitDefEqProofs only [K23,SS,rA,rS,rL,rE,reduceCtorEq]
    refine WC.next (m':=rem L i4 e4) (by omega) ⟨i4,d4,e4,l++[.mk sk sal snm son sas sds ssub],.box [.int .u8 sk,.str sal,.str snm,.str son,.list false (sas.map Arg.row),.list false (sds.map Dir.row),.list false (ssub.map Sel.row)],h4,by omega,(fun h0=>⟨(h4b h0).2.2,by have:=(h4b h0).2.1; omega⟩),fun a ha=>?_,rfl,by simp only [List.length_append,List.length_cons,List.length_nil]; omega,hLo.next (by omega) (fun h0=>(h4b h0).2.1) ?_,?_⟩
    · rcases List.mem_append.1 ha with h0|h0
      · exact hl' a h0
      · simp at h0; subst h0; exact hsOK
    · rw [O1]
      exact r7 hX4 id fun h0=>by rw [if_pos h0,hE h0,if_neg (by decide)]
    · simp only [List.map_append,List.map_cons,List.map_nil,Sel.row_eq]
  · obtain ⟨_,hlt4,rfl⟩:=h4b rfl
    obtain ⟨bad5,ho5⟩:=h5.ob
    have hs5:∀ y:Obj,(st5.set o y)[o]?=some y:=fun y=>m9 ho5
    simp +contextual -implicitDefEqProofs only [K23,SS,rA,rS,rL,rE,reduceCtorEq]
    refine WC.leave ?_
    simp +contextual -implicitDefEqProofs only [K23,SS,rA,rS,rL,rE,reduceCtorEq,ho5,rdC,hs5,a5G hd1 (show d≤100 by omega)]
    refine WC.ret ⟨_,_,rfl,l++[.mk sk sal snm son sas sds ssub],?_,fun a ha=>?_,?_,i4+1,d,0,h5.put h5.hi,by omega,(fun _=>⟨rfl,by omega,rfl⟩),fun _=>?_⟩
    · simp only [List.map_append,List.map_cons,List.map_nil,Sel.row_eq]
      rfl
    · rcases List.mem_append.1 ha with h0|h0
      · exact hl' a h0
      · simp at h0; subst h0; exact hsOK
    · simp only [List.length_append,List.length_cons,List.length_nil]
      have:0 < rem L i' 0:=by rw [b1v]; omega
      omega
    · rw [hA,if_pos rfl]
      refine hLo.exit (by omega) ?_
      rw [O1,hX4,if_pos rfl]
      show (if s8 L i4 [125] then _ else _)=_
      rw [hE,if_pos rfl]
end Go.Cb.CodeA
