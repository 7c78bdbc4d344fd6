/- What functions of the abstract machine answer. No conditions but those that each theorem names. -/
import Derived.Test.YthnliekianmljaaGreatDoorD3
set_option maxRecDepth 20000
set_option linter.unusedSimpArgs false
set_option linter.unusedVariables false
namespace Go.Cb.CodeA
open Go Go.Cb
open Nat renaming reduceAdd → rA,reduceSub → rS,reduceLeDiff → rL,reduceEqDiff → rE
attribute [local congr] i8 k4 k6 k7 j4 j3 l8 l7 V.runR_congr

def a2B (l:List Sel):Prop:=l.length≤3000∧∀ s∈l,s.OK
structure Op.OK (o:Op):Prop where
 vs:o.vs.length≤3000∧∀ v∈o.vs,v.v.OK
 sub:a2B o.sub
structure Docm.Els (D:Docm):Prop where
 ops:∀ o∈D.ops,o.OK
 frags:∀ f∈D.frags,a2B f.sub
abbrev c9o (st0:St) (L:List Tok) (o:Nat) (s:List Nat) (v4 v5:AV) (w:Option ((Bool×Docm)×Nat)) (mm:Nat) (fr:List AV) (st':St):Prop:=∃ (i':Nat) (d' e':Int) (D:Docm) (first:Bool) (v10 v11:AV),Rd st0 L o st' i' d' e'∧(e'=0→d'=0)∧(first=true→e'=0)∧D.Els∧mm=rem L i' e'∧D.ops.length+D.frags.length+mm≤L.length∧LoopAt (G5 L) w i' (first,D) e' ∧
 fr=[.str s,.box [.list true [],.list true []],.int .i64 0,.int .i64 0,v4,v5,.int .i64 0,.ptr o 0,.box [.list true (D.ops.map Op.row),.list true (D.frags.map Frag.row)],.bool first,v10,v11]
def b6m (s:List Nat) (st0:St) (a:AV) (st':St):Prop:=∃ (D:Docm) (at' e:Int),a=.tuple [.agg D.row,.int .i64 at',.int .i64 e]∧D.Els∧D.ops.length≤3000∧D.frags.length≤3000∧a6Z s=(if e=0 then some D else none)∧(e=0→∃ L:List Tok,L.length≤2001∧a0u L=some D)∧∃ t,st'=st0++t∧(e=0→∃ ob,t=[ob])
abbrev a9l (st1:St) (L:List Tok) (s:List Nat) (at':Int) (w:Option ((Bool×Docm)×Nat)) (mm:Nat):Out→Prop:=fun o =>
 (∃ m' fr' st',o=(Ex.normal,fr',st')∧m' < mm∧c9o st1 L (List.length st1) s (AV.list false (List.map Tok.row L)) (AV.int IntKind.i64 at') w m' fr' st') ∨
  o.1≠Ex.normal∧WC (fun n=>seqK (some (W6 0 o)) (d8 (e8 tbl n) n (a10s92.seq (a10s94.seq ACode.ret)))) fun o =>
   ∃ r st',finK [ResK.bx 1 true 2,ResK.v 2,ResK.v 3] (some o)=some (r,st')∧b6m s st1 r st'
theorem Frag.row_mk (n on:List Nat) (sub:List Sel):(Frag.mk n on sub).row=[.str n,.str on,.list false (sub.map Sel.row)]:=rfl
theorem Op.row_mk (m:Bool) (n:List Nat) (vs:List VDef) (sub:List Sel):(Op.mk m n vs sub).row=[.bool m,.str n,.list false (vs.map VDef.row),.list false (sub.map Sel.row)]:=rfl
theorem a8h {st1:St} {L:List Tok} {s:List Nat} {at':Int} {w:Option ((Bool×Docm)×Nat)} {mm:Nat} {st':St} {i':Nat} {D:Docm} {first:Bool} {v10 v11:AV}
 (hr:Rd st1 L st1.length st' i' 0 0) (hD:D.Els) (hmm:mm=rem L i' 0) (hlen:D.ops.length+D.frags.length+mm≤L.length) (hLo:LoopAt (G5 L) w i' (first,D) 0) (hE:(!first && a0j L i' 0)=false) :
 WC (fun n=>obind (p2 (n4 19 (e8 tbl n) [AV.ptr (List.length st1) 0,AV.str [102,114,97,103,109,101,110,116]] AV.undef st'))
     (C7 (P7 1 (C7
      (a10s41_k0 (e8 tbl n) n (AV.str s) (AV.box [AV.list true [],AV.list true []]) (AV.int IntKind.i64 0)
       (AV.int IntKind.i64 0) (AV.list false (List.map Tok.row L)) (AV.int IntKind.i64 at')
       (AV.int IntKind.i64 0) (AV.ptr (List.length st1) 0)
       (AV.box [AV.list true (List.map Op.row D.ops),AV.list true (List.map Frag.row D.frags)]) (AV.bool first)
       v10 v11)
      (d8 (e8 tbl n) n (a10s43.seq (a10s71.seq (a10s73.seq a10s75))))))
      (d8 (e8 tbl n) n a10s82))) (a9l st1 L s at' w mm):=by
 have hl:=hr.hL.2
 have hi:=hr.hi
 obtain ⟨bad,ho⟩:=hr.ob
 have hs:∀ y:Obj,(st'.set st1.length y)[st1.length]?=some y:=fun y=>m9 ho
 have i1:=l5 (show i'+1 < 2 ^ 63 by omega)
 have hmp:0 < mm:=by rw [hmm,b1v]; omega
 refine WC.call (a6G hr _) rfl rfl ?_
 rintro _ st2 ⟨rfl,b,rfl,hb,hbs⟩
 have hbs:=hbs rfl
 simp +contextual -implicitDefEqProofs only [K10,SS,rA,rS,rL,rE,reduceCtorEq]
 refine WC.br (fun hk=>?_) (fun hk=>?_)
 · have hk:b=true:=hk
   have hkk:=(hb hk).2
   have h1:Rd st1 L st1.length (st2.set st1.length (.cells (rdC L (i'+1) 0 bad 0))) (i'+1) 0 0:=hr.put (H0 hr.hL.1 hr.hi (by rw [hkk]; decide))
   have hS0:G5 L i' (first,D)=j0 (Y8 L (i'+1)) fun f j=>some (false,j,(false,⟨D.ops,D.frags++[f]⟩)):=by
    rw [G5,if_neg (by rw [hE]; decide),if_pos (by rw [← hbs]; exact hk)]
   -- behind the first name
   have tail:∀ (st3:St) (i3:Nat) (e3:Int),Rd st1 L st1.length st3 i3 0 e3→i' < i3→(e3=0→Y8 L (i'+1)=j0 (t7 L i3) fun n i=>T0 (K2 L [111,110] i) fun i=>j0 (t7 L i) fun on i=>j0 (q9 L 24 i) fun sub j=>some (⟨n,on,sub⟩,j))→(e3≠0→Y8 L (i'+1)=none) →
    WC (fun n=>obind (p2 (n4 21 (e8 tbl n) [AV.ptr (List.length st1) 0] AV.undef st3))
     (C7 (P7 1 (C7 (C7
      (a10s25_k0 (e8 tbl n) n (AV.str s) (AV.box [AV.list true [],AV.list true []]) (AV.int IntKind.i64 0) (AV.int IntKind.i64 0) (AV.list false (List.map Tok.row L)) (AV.int IntKind.i64 at') (AV.int IntKind.i64 0) (AV.ptr (List.length st1) 0) (AV.box [AV.list true (List.map Op.row D.ops),AV.list true (List.map Frag.row D.frags)]) (AV.bool first) v11)
      (d8 (e8 tbl n) n (a10s27.seq (a10s29.seq (a10s31.seq (a10s33.seq (ACode.exit 1)))))))
      (d8 (e8 tbl n) n (a10s43.seq (a10s71.seq (a10s73.seq a10s75))))))
     (d8 (e8 tbl n) n a10s82))) (a9l st1 L s at' w mm):=by
    intro st3 i3 e3 h3 hi3 hF hN
    refine WC.call (H8 h3) rfl rfl ?_
    rintro _ st4 ⟨n,rfl,i4,e4,h4,h4a,h4b,hX4⟩
    simp +contextual -implicitDefEqProofs only [K10,SS,rA,rS,rL,rE,reduceCtorEq]
    refine WC.call (a0i h4 _) rfl rfl ?_
    rintro _ st5 ⟨i5,e5,h5,h5a,h5b,hX5⟩
    simp +contextual -implicitDefEqProofs only [K10,SS,rA,rS,rL,rE,reduceCtorEq]
    refine WC.call (H8 h5) rfl rfl ?_
    rintro _ st6 ⟨on,rfl,i6,e6,h6,h6a,h6b,hX6⟩
    simp +contextual -implicitDefEqProofs only [K10,SS,rA,rS,rL,rE,reduceCtorEq]
    refine WC.call (b8F L st1.length 24 h6 (fun _=>⟨Int.le_refl _,by decide⟩)) rfl rfl ?_
    rintro _ st7 ⟨sub,rfl,hsub,hsl,i7,d7,e7,h7,h7a,h7b,hX7⟩
    have hfr:(D.frags.length+1)*56≤2 ^ 47:=by omega
    simp +contextual -implicitDefEqProofs only [K10,SS,rA,rS,rL,rE,reduceCtorEq,b7c,List.length_map,hfr]
    have hlt:rem L i7 e7 < rem L i' 0:=X2 rfl hr.hi (fun h0=>by have:=(h7b h0).2.1; omega)
    refine WC.next (m':=rem L i7 e7) (by omega) ⟨i7,d7,e7,⟨D.ops,D.frags++[⟨n,on,sub⟩]⟩,false,.box [.str n,.str on,.list false (sub.map Sel.row)],v11,h7,(fun h0=>(h7b h0).2.2),(fun h=>by cases h),⟨hD.ops,fun f hf=>?_⟩,rfl,by simp only [List.length_append,List.length_cons,List.length_nil]; omega,hLo.next (by omega) (fun h0=>by have:=(h7b h0).2.1; omega) ?_,?_⟩
    · rcases List.mem_append.1 hf with h0|h0
      · exact hD.frags f h0
      · simp at h0; subst h0; exact ⟨hsl,hsub⟩
    · rw [hS0]
      by_cases h3e:e3=0
      · rw [hF h3e]
        have key:=r7 (k:=fun n i=>T0 (K2 L [111,110] i) fun i=>j0 (t7 L i) fun on i=>j0 (q9 L 24 i) fun sub j=>some ((⟨n,on,sub⟩:Frag),j)) (e2:=e7) (y:=(⟨n,on,sub⟩,i7)) (hX4 h3e) (fun h=>(h5b (h6b (h7b h).1).1).1) fun h0=>a3e (hX5 h0) (fun h=>(h6b (h7b h).1).1) fun h0=>r7 (hX6 h0) (fun h=>(h7b h).1) fun h0=>r7 (hX7 h0) id fun h0=>by rw [if_pos h0]
        exact r7 key id fun h0=>by rw [if_pos h0]
      · rw [hN h3e,if_neg (fun h=>h3e (h4b (h5b (h6b (h7b h).1).1).1).1)]
        rfl
    · simp only [List.map_append,List.map_cons,List.map_nil,Frag.row_mk]
   simp +contextual -implicitDefEqProofs only [K10,SS,rA,rS,rL,rE,reduceCtorEq,ho,rdC,hs,i1]
   refine WC.call (a6G h1 _) rfl rfl ?_
   rintro _ st3 ⟨rfl,c,rfl,hc,hcs⟩
   have hcs:=hcs rfl
   simp +contextual -implicitDefEqProofs only [K10,SS,rA,rS,rL,rE,reduceCtorEq]
   refine WC.br (fun hk2=>?_) (fun hk2=>?_)
   · have hk2:c=true:=hk2
     simp +contextual -implicitDefEqProofs only [K10,SS,rA,rS,rL,rE,reduceCtorEq]
     refine WC.call (a0b h1 4 (by decide)) rfl rfl ?_
     rintro _ st4 ⟨e4,h4,he4⟩
     simp +contextual -implicitDefEqProofs only [K10,SS,rA,rS,rL,rE,reduceCtorEq]
     exact tail st4 (i'+1) e4 h4 (by omega) (fun h=>absurd h he4) fun _=>by rw [Y8,← hcs,hk2,if_pos rfl]
   · have hk2:c=false:=hk2
     simp +contextual -implicitDefEqProofs only [K10,SS,rA,rS,rL,rE,reduceCtorEq]
     exact tail _ (i'+1) 0 h1 (by omega) (fun _=>by rw [Y8,← hcs,hk2,if_neg (by decide)]) fun h=>absurd rfl h
 · have hk:b=false:=hk
   have hS0:G5 L i' (first,D)=j0 (opP L i') fun o j=>some (false,j,(false,⟨D.ops++[o],D.frags⟩)):=by
    rw [G5,if_neg (by rw [hE]; decide),if_neg (by rw [← hbs,hk]; decide)]
   have stail:∀ (m:Bool) (n:List Nat) (vs:List VDef) (st3:St) (i3:Nat) (e3:Int),Rd st1 L st1.length st3 i3 0 e3→i'≤i3→(vs.length≤3000∧∀ v∈vs,v.v.OK)→(e3=0→opP L i'=j0 (q9 L 24 i3) fun sub j=>some (⟨m,n,vs,sub⟩,j))→(e3≠0→opP L i'=none) →
    WC (fun n'=>obind (p2 (n4 23 (e8 tbl n') [AV.ptr (List.length st1) 0] AV.undef st3))
     (C7 (P7 1 (C7
      (a10s73_k0 (e8 tbl n') n' (AV.str s) (AV.box [AV.list true [],AV.list true []]) (AV.int IntKind.i64 0) (AV.int IntKind.i64 0) (AV.list false (List.map Tok.row L)) (AV.int IntKind.i64 at') (AV.int IntKind.i64 0) (AV.ptr (List.length st1) 0) (AV.box [AV.list true (List.map Op.row D.ops),AV.list true (List.map Frag.row D.frags)]) (AV.bool first) v10 (AV.box [AV.bool m,AV.str n,AV.list true (vs.map VDef.row),AV.list true []]))
      (d8 (e8 tbl n') n' a10s75)))
     (d8 (e8 tbl n') n' a10s82))) (a9l st1 L s at' w mm):=by
    intro m n vs st3 i3 e3 h3 hi3 hvs hF hN
    refine WC.call (b8F L st1.length 24 h3 (fun _=>⟨Int.le_refl _,by decide⟩)) rfl rfl ?_
    rintro _ st7 ⟨sub,rfl,hsub,hsl,i7,d7,e7,h7,h7a,h7b,hX7⟩
    have hfr:(D.ops.length+1)*72≤2 ^ 47:=by omega
    simp +contextual -implicitDefEqProofs only [K10,SS,rA,rS,rL,rE,reduceCtorEq,c8p,List.length_map,hfr]
    have hlt:rem L i7 e7 < rem L i' 0:=X2 rfl hr.hi (fun h0=>by have:=(h7b h0).2.1; omega)
    refine WC.next (m':=rem L i7 e7) (by omega) ⟨i7,d7,e7,⟨D.ops++[⟨m,n,vs,sub⟩],D.frags⟩,false,v10,.box [.bool m,.str n,.list true (vs.map VDef.row),.list false (sub.map Sel.row)],h7,(fun h0=>(h7b h0).2.2),(fun h=>by cases h),⟨fun f hf=>?_,hD.frags⟩,rfl,by simp only [List.length_append,List.length_cons,List.length_nil]; omega,hLo.next (by omega) (fun h0=>by have:=(h7b h0).2.1; omega) ?_,?_⟩
    · rcases List.mem_append.1 hf with h0|h0
      · exact hD.ops f h0
      · simp at h0; subst h0; exact ⟨hvs,hsl,hsub⟩
    · rw [hS0]
      by_cases h3e:e3=0
      · rw [hF h3e]
        have key:=r7 (k:=fun sub j=>some ((⟨m,n,vs,sub⟩:Op),j)) (e2:=e7) (y:=(⟨m,n,vs,sub⟩,i7)) (hX7 h3e) id fun h0=>by rw [if_pos h0]
        exact r7 key id fun h0=>by rw [if_pos h0]
      · rw [hN h3e,if_neg (fun h=>h3e (h7b h).1)]
        rfl
    · simp only [List.map_append,List.map_cons,List.map_nil,Op.row_mk]
   have vtail:∀ (m:Bool) (n:List Nat) (st3:St) (i3:Nat) (e3:Int),Rd st1 L st1.length st3 i3 0 e3→i' < i3→(e3=0→opP L i'=j0 (S0 L i3) fun vs i=>j0 (q9 L 24 i) fun sub j=>some (⟨m,n,vs,sub⟩,j))→(e3≠0→opP L i'=none) →
    WC (fun n'=>obind (p2 (n4 25 (e8 tbl n') [AV.ptr (List.length st1) 0,AV.str [40]] AV.undef st3))
     (C7 (P7 1 (C7
      (a10s67_k0 (e8 tbl n') n' (AV.str s) (AV.box [AV.list true [],AV.list true []]) (AV.int IntKind.i64 0) (AV.int IntKind.i64 0) (AV.list false (List.map Tok.row L)) (AV.int IntKind.i64 at') (AV.int IntKind.i64 0) (AV.ptr (List.length st1) 0) (AV.box [AV.list true (List.map Op.row D.ops),AV.list true (List.map Frag.row D.frags)]) (AV.bool first) v10 (AV.box [AV.bool m,AV.str n,AV.list true [],AV.list true []]))
      (d8 (e8 tbl n') n' (a10s73.seq a10s75))))
     (d8 (e8 tbl n') n' a10s82))) (a9l st1 L s at' w mm):=by
    intro m n st3 i3 e3 h3 hi3 hF hN
    refine WC.call (z9 h3 _) rfl rfl ?_
    rintro _ st8 (⟨rfl,rfl,hE8⟩|⟨rfl,rfl,h8,hE8⟩)
    · simp +contextual -implicitDefEqProofs only [K10,SS,rA,rS,rL,rE,reduceCtorEq]
      refine stail m n [] _ i3 e3 h3 (by omega) ⟨by simp,by simp⟩ (fun h0=>?_) hN
      rw [hF h0,S0,hE8 h0,if_neg (by decide)]; rfl
    · simp +contextual -implicitDefEqProofs only [K10,SS,rA,rS,rL,rE,reduceCtorEq]
      refine WC.call (b94 h8) rfl rfl ?_
      rintro _ st9 ⟨v,rfl,hv,i9,e9,h9,h9a,h9b,hX9⟩
      obtain ⟨qn,tn,txs,tb,has,vk,vn,vss,vx,vy,ev⟩:=v.row_cells
      have hfr1:1*152≤2 ^ 47:=by decide
      simp +contextual -implicitDefEqProofs only [K10,SS,rA,rS,rL,rE,reduceCtorEq,ev,hfr1]
      have hw20:∃ w2,w2=(if e9=0 then t8 (U4 L) 2002 i9 [v] else none):=⟨_,rfl⟩
      obtain ⟨w2,hw2⟩:=hw20
      have hV:S0 L i3=w2:=by
       rw [S0,hE8,if_pos rfl,hX9 rfl,hw2]
       by_cases h0:e9=0
       · rw [if_pos h0,if_pos h0]; rfl
       · rw [if_neg h0,if_neg h0]; rfl
      have hF:=hF rfl
      rw [hV] at hF
      have hj8:=h8.hi
      have hexit:∀ (vs:List VDef) (i6:Nat) (e6:Int),(w2=if e6=0 then some (vs,i6) else none)→(e6=0→opP L i'=j0 (q9 L 24 i6) fun sub j=>some (⟨m,n,vs,sub⟩,j))∧(e6≠0→opP L i'=none):=by
       intro vs i6 e6 hw6
       refine ⟨fun h0=>?_,fun h0=>?_⟩
       · rw [hF,hw6,if_pos h0]; rfl
       · rw [hF,hw6,if_neg h0]; rfl
      refine WC.loopR (fun mm2 fr st'=>∃ (i6:Nat) (e6:Int) (vs:List VDef),Rd st1 L st1.length st' i6 0 e6∧i9≤i6∧(∀ v∈vs,v.v.OK)∧mm2=rem L i6 e6∧vs.length+mm2≤L.length+1∧LoopAt (U4 L) w2 i6 vs e6∧fr=[.str s,.box [.list true [],.list true []],.int .i64 0,.int .i64 0,.list false (L.map Tok.row),.int .i64 at',.int .i64 0,.ptr st1.length 0,.box [.list true (D.ops.map Op.row),.list true (D.frags.map Frag.row)],.bool first,v10,.box [.bool m,.str n,.list true (vs.map VDef.row),.list true []]]) (m:=rem L i9 e9) ⟨i9,e9,[v],h9,Nat.le_refl _,(by simpa using hv),rfl,(by have:=a0y L i9 e9; simp only [List.length_cons,List.length_nil]; omega),LoopAt.start _ _ _ _ hw2,by simp only [List.map_cons,List.map_nil,ev]⟩ ?_
      rintro mm2 fr st10 ⟨i6,e6,vs,h6,h6a,hvs,hmm2,hlen2,hLo2,rfl⟩
      obtain ⟨bad6,ho6⟩:=h6.ob
      have hi6:=h6.hi
      by_cases he6:e6=0
      rotate_left
      · have hf:eqI e6 0=false:=by rw [eqI_eq]; simpa using he6
        simp +contextual -implicitDefEqProofs only [K10,SS,rA,rS,rL,rE,reduceCtorEq,ho6,rdC,hf]
        refine WC.leave ?_
        simp +contextual -implicitDefEqProofs only [K10,SS,rA,rS,rL,rE,reduceCtorEq]
        have hx:=hexit vs i6 e6 (by rw [if_neg he6]; exact hLo2.bad he6)
        exact stail m n vs _ i6 e6 h6 (by omega) ⟨by omega,hvs⟩ hx.1 hx.2
      subst he6
      simp +contextual -implicitDefEqProofs only [K10,SS,rA,rS,rL,rE,reduceCtorEq,ho6,rdC,show eqI 0 0=true from rfl]
      refine WC.call (z9 h6 _) rfl rfl ?_
      rintro _ st11 (⟨rfl,rfl,hE11⟩|⟨rfl,_,h11,hE11⟩)
      · simp +contextual -implicitDefEqProofs only [K10,SS,rA,rS,rL,rE,reduceCtorEq]
        refine WC.call (b94 h6) rfl rfl ?_
        rintro _ st12 ⟨u,rfl,hu,i12,e12,h12,h12a,h12b,hX12⟩
        obtain ⟨qn',tn',txs',tb',has',vk',vn',vss',vx',vy',ev'⟩:=u.row_cells
        have hfr2:(vs.length+1)*152≤2 ^ 47:=by omega
        have hlt:rem L i12 e12 < rem L i6 0:=X2 rfl h6.hi (fun h0=>(h12b h0).2)
        simp +contextual -implicitDefEqProofs only [K10,SS,rA,rS,rL,rE,reduceCtorEq,ev',d1M,List.length_map,hfr2]
        refine WC.next (m':=rem L i12 e12) (by omega) ⟨i12,e12,vs++[u],h12,by omega,fun x hx=>?_,rfl,by simp only [List.length_append,List.length_cons,List.length_nil]; omega,hLo2.next (by omega) (fun h0=>(h12b h0).2) ?_,?_⟩
        · rcases List.mem_append.1 hx with h0|h0
          · exact hvs x h0
          · simp at h0; subst h0; exact hu
        · rw [U4,hE11 rfl,if_neg (by decide)]
          exact r7 (hX12 rfl) id fun h0=>by rw [if_pos h0]
        · simp only [List.map_append,List.map_cons,List.map_nil,ev']
      · simp +contextual -implicitDefEqProofs only [K10,SS,rA,rS,rL,rE,reduceCtorEq]
        refine WC.leave ?_
        simp +contextual -implicitDefEqProofs only [K10,SS,rA,rS,rL,rE,reduceCtorEq]
        have hx:=hexit vs (i6+1) 0 (by rw [if_pos rfl]; exact hLo2.exit (by omega) (by rw [U4,hE11]; rfl))
        exact stail m n vs _ (i6+1) 0 h11 (by omega) ⟨by omega,hvs⟩ hx.1 hx.2
   have ntail:∀ (m:Bool) (st3:St) (i3:Nat) (e3:Int),Rd st1 L st1.length st3 i3 0 e3→i'≤i3→(e3=0→i' < i3)→(e3=0→opP L i'=j0 (W3 L i3) fun n i=>j0 (S0 L i) fun vs i=>j0 (q9 L 24 i) fun sub j=>some (⟨m,n,vs,sub⟩,j))→(e3≠0→opP L i'=none) →
    WC (fun n'=>obind (p2 (n4 18 (e8 tbl n') [AV.ptr (List.length st1) 0,AV.int IntKind.u8 1] AV.undef st3))
     (C7 (P7 1 (C7 (C7
      (a10s54_k0 (e8 tbl n') n' (AV.str s) (AV.box [AV.list true [],AV.list true []]) (AV.int IntKind.i64 0) (AV.int IntKind.i64 0) (AV.list false (List.map Tok.row L)) (AV.int IntKind.i64 at') (AV.int IntKind.i64 0) (AV.ptr (List.length st1) 0) (AV.box [AV.list true (List.map Op.row D.ops),AV.list true (List.map Frag.row D.frags)]) (AV.bool first) v10 (AV.box [AV.bool m,AV.str [],AV.list true [],AV.list true []]))
      (d8 (e8 tbl n') n' a9i))
      (d8 (e8 tbl n') n' (a10s73.seq a10s75))))
     (d8 (e8 tbl n') n' a10s82))) (a9l st1 L s at' w mm):=by
    intro m st3 i3 e3 h3 hi3 hlt3 hF hN
    refine WC.call (a5b h3 1) rfl rfl ?_
    rintro _ st6 ⟨rfl,g,rfl,hg⟩
    simp +contextual -implicitDefEqProofs only [K10,SS,rA,rS,rL,rE,reduceCtorEq]
    refine WC.br (fun hk3=>?_) (fun hk3=>?_)
    · obtain ⟨rfl,hk4⟩:=hg.1 hk3
      simp +contextual -implicitDefEqProofs only [K10,SS,rA,rS,rL,rE,reduceCtorEq]
      refine WC.call (H8 h3) rfl rfl ?_
      rintro _ st7 ⟨n,rfl,i7,e7,h7,h7a,h7b,hX7⟩
      simp +contextual -implicitDefEqProofs only [K10,SS,rA,rS,rL,rE,reduceCtorEq]
      have hO:W3 L i3=if e7=0 then some (n,i7) else none:=by rw [W3,a2X h3.hi hg,if_pos hk3,hX7 rfl]
      refine vtail m n _ i7 e7 h7 (by have:=hlt3 rfl; omega) (fun h0=>?_) (fun h0=>?_)
      · rw [hF rfl,hO,if_pos h0]; rfl
      · rw [hF rfl,hO,if_neg h0]; rfl
    · have hk3:g=false:=hk3
      simp +contextual -implicitDefEqProofs only [K10,SS,rA,rS,rL,rE,reduceCtorEq]
      by_cases h0:e3=0
      · refine vtail m [] _ i3 e3 h3 (hlt3 h0) (fun h0=>?_) hN
        subst h0
        rw [hF rfl,W3,a2X h3.hi hg,hk3,if_neg (by decide)]; rfl
      · by_cases hlt:i' < i3
        · exact vtail m [] _ i3 e3 h3 hlt (fun h=>absurd h h0) hN
        · -- nothing is there any more: the brackets aren't, either
          refine WC.call (z9 h3 _) rfl rfl ?_
          rintro _ st8 (⟨rfl,rfl,hE8⟩|⟨rfl,he8,h8,hE8⟩)
          · simp +contextual -implicitDefEqProofs only [K10,SS,rA,rS,rL,rE,reduceCtorEq]
            exact stail m [] [] _ i3 e3 h3 (by omega) ⟨by simp,by simp⟩ (fun h=>absurd h h0) hN
          · exact absurd he8 h0
   simp +contextual -implicitDefEqProofs only [K10,SS,rA,rS,rL,rE,reduceCtorEq]
   refine WC.call (a5J hr _) rfl rfl ?_
   rintro _ st3 ⟨rfl,c,rfl,hc,hcs⟩
   have hcs:=hcs rfl
   simp +contextual -implicitDefEqProofs only [K10,SS,rA,rS,rL,rE,reduceCtorEq]
   refine WC.br (fun hk2=>?_) (fun hk2=>?_)
   · have hk2:c=false:=by simpa using hk2
     have hO:opP L i'=j0 (a1w L i') fun m i=>j0 (W3 L i) fun n i=>j0 (S0 L i) fun vs i=>j0 (q9 L 24 i) fun sub j=>some (⟨m,n,vs,sub⟩,j):=by rw [opP,← hcs,hk2,if_neg (by decide)]
     simp +contextual -implicitDefEqProofs only [K10,SS,rA,rS,rL,rE,reduceCtorEq]
     refine WC.call (z9 hr _) rfl rfl ?_
     rintro _ st4 (⟨rfl,rfl,hE4⟩|⟨rfl,_,h4,hE4⟩)
     · simp +contextual -implicitDefEqProofs only [K10,SS,rA,rS,rL,rE,reduceCtorEq]
       refine WC.call (c0v hr _) rfl rfl ?_
       rintro _ st5 ⟨i5,e5,h5,h5a,h5b,hX5⟩
       simp +contextual -implicitDefEqProofs only [K10,SS,rA,rS,rL,rE,reduceCtorEq]
       refine ntail false _ i5 e5 h5 h5a h5b (fun h0=>?_) (fun h0=>?_)
       · rw [hO,a1w,hE4 rfl,if_neg (by decide),hX5,if_pos h0]; rfl
       · rw [hO,a1w,hE4 rfl,if_neg (by decide),hX5,if_neg h0]; rfl
     · simp +contextual -implicitDefEqProofs only [K10,SS,rA,rS,rL,rE,reduceCtorEq]
       refine ntail true _ (i'+1) 0 h4 (by omega) (fun _=>by omega) (fun h0=>?_) (fun h0=>absurd rfl h0)
       rw [hO,a1w,hE4,if_pos rfl]; rfl
   · have hk2:c=true:=by simpa using hk2
     simp +contextual -implicitDefEqProofs only [K10,SS,rA,rS,rL,rE,reduceCtorEq]
     refine stail false [] [] _ i' 0 hr (Nat.le_refl _) ⟨by simp,by simp⟩ (fun h0=>?_) (fun h0=>absurd rfl h0)
     rw [opP,← hcs,hk2,if_pos rfl]
theorem d4S (s:List Nat) (st0:St):EvQ tbl 10 [.str s] st0 (b6m s st0):=by
 refine EvQ.body (fn:=a10) rfl rfl rfl ?_
 simp +contextual -implicitDefEqProofs only [K10,SS,rA,rS,rL,rE,reduceCtorEq]
 refine WC.call (b65 s st0) rfl rfl ?_
 rintro _ st1 ⟨rfl,L,at',e,rfl,hL,hT⟩
 simp +contextual -implicitDefEqProofs only [K10,SS,rA,rS,rL,rE,reduceCtorEq]
 refine WC.br (fun hk=>?_) (fun hk=>?_)
 · have he:e≠0:=by rw [eqI_eq] at hk; simpa using hk
   simp +contextual -implicitDefEqProofs only [K10,SS,rA,rS,rL,rE,reduceCtorEq]
   exact WC.ret ⟨_,_,rfl,⟨[],[]⟩,at',e,rfl,⟨by simp,by simp⟩,by simp,by simp,by rw [a6Z,hT,if_neg he,if_neg he],fun h=>absurd h he,[],by rw [List.append_nil],fun h=>absurd h he⟩
 have he:e=0:=by rw [eqI_eq] at hk; simpa using hk
 subst he
 rw [if_pos rfl] at hT
 obtain ⟨hL1,hL2⟩:=hL rfl
 have hpos:0 < L.length:=by obtain ⟨L',x,rfl,_⟩:=hL1; simp
 have hR:Rd st1 L st1.length (st1++[.cells [.list false (L.map Tok.row),.int .i64 0,.int .i64 0,.int .i64 0,.int .i64 0]]) 0 0 0:=⟨⟨hL1,hL2⟩,hpos,⟨0,rfl⟩,rfl⟩
 simp +contextual -implicitDefEqProofs only [K10,SS,rA,rS,rL,rE,reduceCtorEq]
 have hw0:∃ w,w=t8 (G5 L) 2002 0 (true,⟨[],[]⟩):=⟨_,rfl⟩
 obtain ⟨w,hw⟩:=hw0
 have hA:a6Z s=j0 w fun x _=>some x.2:=by rw [a6Z,hT,hw]; rfl
 have hAL:a0u L=j0 w fun x _=>some x.2:=by rw [hw]; rfl
 refine WC.loopR (c9o st1 L st1.length s (.list false (L.map Tok.row)) (.int .i64 at') w) (m:=rem L 0 0) ⟨0,0,0,⟨[],[]⟩,true,_,_,hR,(fun _=>rfl),(fun _=>rfl),⟨by simp,by simp⟩,rfl,by simpa using a0y L 0 0,LoopAt.start _ _ _ _ (by rw [if_pos rfl,hw]),rfl⟩ ?_
 rintro mm fr st' ⟨i',d',e',D,first,v10,v11,hr,hde,hfe,hD,hmm,hlen,hLo,rfl⟩
 obtain ⟨bad',ho'⟩:=hr.ob
 have hi2:=hr.hi
 cases first with
 | true =>
  obtain rfl:=hfe rfl
  obtain rfl:=hde rfl
  simp +contextual -implicitDefEqProofs only [K10,SS,rA,rS,rL,rE,reduceCtorEq]
  exact a8h hr hD hmm hlen hLo rfl
 | false =>
  have hs':∀ y:Obj,(st'.set st1.length y)[st1.length]?=some y:=fun y=>m9 ho'
  have hst:∃ t,st'=st1++t∧∃ ob,t=[ob]:=by
   obtain ⟨b,hb⟩:=hr.sh
   exact ⟨_,hb,_,rfl⟩
  by_cases he0:e'=0
  rotate_left
  · have hf:eqI e' 0=false:=by rw [eqI_eq]; simpa using he0
    simp +contextual -implicitDefEqProofs only [K10,SS,rA,rS,rL,rE,reduceCtorEq,ho',rdC,hf]
    refine WC.leave ?_
    simp +contextual -implicitDefEqProofs only [K10,SS,rA,rS,rL,rE,reduceCtorEq,ho',rdC,hf]
    obtain ⟨t,ht,_⟩:=hst
    refine WC.ret ⟨_,_,rfl,⟨[],[]⟩,bad',e',rfl,⟨by simp,by simp⟩,by simp,by simp,?_,fun h=>absurd h he0,t,ht,fun h=>absurd h he0⟩
    rw [hA,hLo.bad he0,if_neg he0]; rfl
  subst he0
  obtain rfl:=hde rfl
  simp +contextual -implicitDefEqProofs only [K10,SS,rA,rS,rL,rE,reduceCtorEq,ho',rdC,show eqI 0 0=true from rfl]
  refine WC.call (a5b hr 0) rfl rfl ?_
  rintro _ st2 ⟨rfl,b,rfl,hb⟩
  have hbk:=a2X hr.hi hb
  cases b with
  | false =>
   simp +contextual -implicitDefEqProofs only [K10,SS,rA,rS,rL,rE,reduceCtorEq]
   exact a8h hr hD hmm hlen hLo (by rw [hbk]; rfl)
  | true =>
   simp +contextual -implicitDefEqProofs only [K10,SS,rA,rS,rL,rE,reduceCtorEq]
   refine WC.leave ?_
   simp +contextual -implicitDefEqProofs only [K10,SS,rA,rS,rL,rE,reduceCtorEq,ho',rdC,show eqI 0 0=true from rfl]
   obtain ⟨t,ht,htt⟩:=hst
   have hw:=hLo.exit (j:=i') (b:=(false,D)) (by omega) (by rw [G5,hbk]; rfl)
   refine WC.ret ⟨_,_,rfl,D,0,0,?_,hD,by omega,by omega,?_,fun _=>⟨L,hL2,by rw [hAL,hw]; rfl⟩,t,ht,fun _=>htt⟩
   · rfl
   · rw [hA,hw,if_pos rfl]; rfl
end Go.Cb.CodeA
