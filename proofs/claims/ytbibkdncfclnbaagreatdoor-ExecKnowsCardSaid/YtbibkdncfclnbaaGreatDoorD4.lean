import Derived.Test.YtbibkdncfclnbaaGreatDoorD3
set_option maxRecDepth 20000
set_option linter.all false
namespace Go.Cb.CodeA
open Go Go.Cb
open Nat renaming reduceAdd→rA,reduceSub→rS,reduceLeDiff→rL,reduceEqDiff→rE
attribute [local congr] g9 j3 j4 j5 i8 j0 j8 j9 V.runR_congr
def b2G (l:List Sel):Prop:=l.length≤3000∧∀ s∈l,s.OK
structure Op.OK (o:Op):Prop where
 vs:o.vs.length≤3000∧∀ v∈o.vs,v.v.OK
 sub:b2G o.sub
structure Docm.Els (D:Docm):Prop where
 ops:∀ o∈D.ops,o.OK
 frags:∀ f∈D.frags,b2G f.sub
abbrev c69 (st0:St) (L:List Tok) (o:Nat) (s:List Nat) (v4 v5:AV) (w:Option ((Bool×Docm)×Nat)) (mm:Nat) (fr:List AV) (st':St):Prop:=∃ (i':Nat) (d' e':Int) (D:Docm) (first:Bool) (v10 v11:AV),Rd st0 L o st' i' d' e'∧(e'=0→d'=0)∧(first=true→e'=0)∧D.Els∧mm=rem L i' e'∧D.ops.length+D.frags.length+mm≤L.length∧LoopAt (Q1 L) w i' (first,D) e' ∧
 fr=[.str s,.box [.list true [],.list true []],.int .i64 0,.int .i64 0,v4,v5,.int .i64 0,.ptr o 0,.box [.list true (D.ops.map Op.row),.list true (D.frags.map Frag.row)],.bool first,v10,v11]
def b7J (s:List Nat) (l:St) (a:AV) (st':St):Prop:=∃ (D:Docm) (at' e:Int),a=.tuple [.agg D.row,.int .i64 at',.int .i64 e]∧D.Els∧D.ops.length≤3000∧D.frags.length≤3000∧a8O s=(if e=0 then some D else none)∧(e=0→∃ L:List Tok,L.length≤2001∧a7f L=some D)∧∃ t,st'=l++t∧(e=0→∃ ob,t=[ob])
abbrev b1o (st1:St) (L:List Tok) (s:List Nat) (at':Int) (w:Option ((Bool×Docm)×Nat)) (mm:Nat):Out→Prop:=fun o =>
 (∃ m' fr' st',o=(Ex.normal,fr',st')∧m' < mm∧c69 st1 L (List.length st1) s (AV.list false (List.map Tok.row L)) (AV.int IntKind.i64 at') w m' fr' st') ∨
  o.1≠Ex.normal∧WC (fun n=>seqK (some (a1u 0 o)) (j1 (k8 tbl n) n (a34s92.seq (a34s94.seq ACode.ret)))) fun o =>∃ r st',finK [ResK.bx 1 true 2,ResK.v 2,ResK.v 3] (some o)=some (r,st')∧b7J s st1 r st'
theorem Frag.row_mk (n on:List Nat) (sub:List Sel):(Frag.mk n on sub).row=[.str n,.str on,.list false (sub.map Sel.row)]:=rfl
theorem Op.row_mk (m:Bool) (n:List Nat) (vs:List VDef) (sub:List Sel):(Op.mk m n vs sub).row=[.bool m,.str n,.list false (vs.map VDef.row),.list false (sub.map Sel.row)]:=rfl
theorem b0t {st1:St} {L:List Tok} {s:List Nat} {at':Int} {w:Option ((Bool×Docm)×Nat)} {mm:Nat} {st':St} {e:Nat} {D:Docm} {first:Bool} {a0 d0:AV}
 (Z:Rd st1 L st1.length st' e 0 0) (hD:D.Els) (g6:mm=rem L e 0) (k0:D.ops.length+D.frags.length+mm≤L.length) (d4:LoopAt (Q1 L) w e (first,D) 0) (hE:(!first && a2s L e 0)=false) :
 WC (fun n=>obind (p2 (p8 63 (k8 tbl n) [AV.ptr (List.length st1) 0,AV.str [102,114,97,103,109,101,110,116]] AV.undef st'))
     (H7 (U3 1 (H7
      (a34s41_k0 (k8 tbl n) n (AV.str s) (AV.box [AV.list true [],AV.list true []]) (AV.int IntKind.i64 0)
       (AV.int IntKind.i64 0) (AV.list false (List.map Tok.row L)) (AV.int IntKind.i64 at')
       (AV.int IntKind.i64 0) (AV.ptr (List.length st1) 0)
       (AV.box [AV.list true (List.map Op.row D.ops),AV.list true (List.map Frag.row D.frags)]) (AV.bool first)
       a0 d0)
      (j1 (k8 tbl n) n (a34s43.seq (a34s71.seq (a34s73.seq a2C))))))
      (j1 (k8 tbl n) n a2G))) (b1o st1 L s at' w mm):=by
 have hl:=Z.hL.2;have hi:=Z.hi;obtain⟨bad,ho⟩:=Z.ob;have hs:∀ y:Obj,(st'.set st1.length y)[st1.length]?=some y:=fun y=>r7 ho
 have i1:=k7 (show e+1 < 2 ^ 63 by omega);have n1:0 < mm:=by rw[g6,b2j]; omega
 refine wa (a8f Z _) rfl rfl ?_;rintro _ st2 ⟨rfl,b,rfl,hb,b4⟩;have b4:=b4 rfl;simp only[K34];refine wi (fun hk=>?_) (fun hk=>?_)
 · have hk:b=true:=hk;have g4:=(hb hk).2;have h1:Rd st1 L st1.length (st2.set st1.length (.cells (rdC L (e+1) 0 bad 0))) (e+1) 0 0:=Z.put (N9 Z.hL.1 Z.hi (by rw[g4]; decide));have c2:Q1 L e (first,D)=l6 (a1Z L (e+1)) fun f j=>some (false,j,(false,⟨D.ops,D.frags++[f]⟩)):=by rw[Q1,if_neg (by rw[hE]; decide),if_pos (by rw[← b4]; exact hk)]
   -- behind the first name
   have tail:∀ (l:St) (i3:Nat) (z:Int),Rd st1 L st1.length l i3 0 z→e < i3→(z=0→a1Z L (e+1)=l6 (E6 L i3) fun n i=>a0v (R7 L [111,110] i) fun i=>l6 (E6 L i) fun on i=>l6 (t6 L 24 i) fun sub j=>some (⟨n,on,sub⟩,j))→(z≠0→a1Z L (e+1)=none) →
    WC (fun n=>obind (p2 (p8 65 (k8 tbl n) [AV.ptr (List.length st1) 0] AV.undef l))
     (H7 (U3 1 (H7 (H7
      (a34s25_k0 (k8 tbl n) n (AV.str s) (AV.box [AV.list true [],AV.list true []]) (AV.int IntKind.i64 0) (AV.int IntKind.i64 0) (AV.list false (List.map Tok.row L)) (AV.int IntKind.i64 at') (AV.int IntKind.i64 0) (AV.ptr (List.length st1) 0) (AV.box [AV.list true (List.map Op.row D.ops),AV.list true (List.map Frag.row D.frags)]) (AV.bool first) d0)
      (j1 (k8 tbl n) n (a34s27.seq (a34s29.seq (a34s31.seq (a34s33.seq (ACode.exit 1)))))))
      (j1 (k8 tbl n) n (a34s43.seq (a34s71.seq (a34s73.seq a2C))))))
     (j1 (k8 tbl n) n a2G))) (b1o st1 L s at' w mm):=by
    intro l i3 z O c4 W hN;refine wa (O9 O) rfl rfl ?_;rintro _ c8 ⟨n,rfl,i4,e4,h4,l0,f6,f8⟩;simp only[K34,rA,rL];refine wa (a2w h4 _) rfl rfl ?_;rintro _ g7 ⟨i5,e5,h5,d2,b1,b3⟩;simp only[K34,rA,rL,rE];refine wa (O9 h5) rfl rfl ?_;rintro _ h2 ⟨on,rfl,i6,U,h6,f7,c1,f9⟩;simp only[K34,rA,rE];refine wa (c2N L st1.length 24 h6 (fun _=>⟨Int.le_refl _,by decide⟩)) rfl rfl ?_;rintro _ f3 ⟨sub,rfl,a7,c6,i7,d7,e7,h7,d3,C,a5⟩;have c3:(D.frags.length+1)*56≤2 ^ 47:=by omega
    simp only[K34,rA,rE,c0h,AG,c3];have b6:rem L i7 e7 < rem L e 0:=a1r rfl Z.hi (fun h0=>by have:=(C h0).2.1; omega);refine wd (m':=rem L i7 e7) (by omega) ⟨i7,d7,e7,⟨D.ops,D.frags++[⟨n,on,sub⟩]⟩,false,.box [.str n,.str on,.list false (sub.map Sel.row)],d0,h7,(fun h0=>(C h0).2.2),(fun h=>by cases h),⟨hD.ops,fun f hf=>?_⟩,rfl,by simp only[AF,AY,List.length_nil]; omega,d4.next (by omega) (fun h0=>by have:=(C h0).2.1; omega) ?_,?_⟩
    · rcases AQ.1 hf with h0|h0
      · exact hD.frags f h0
      · simp at h0; subst h0; exact⟨c6,a7⟩
    · rw[c2];by_cases M:z=0
      · rw[W M];have key:=A9 (k:=fun n i=>a0v (R7 L [111,110] i) fun i=>l6 (E6 L i) fun on i=>l6 (t6 L 24 i) fun sub j=>some ((⟨n,on,sub⟩:Frag),j)) (e2:=e7) (y:=(⟨n,on,sub⟩,i7)) (f8 M) (fun h=>(b1 (c1 (C h).1).1).1) fun h0=>a6m (b3 h0) (fun h=>(c1 (C h).1).1) fun h0=>A9 (f9 h0) (fun h=>(C h).1) fun h0=>A9 (a5 h0) id fun h0=>by rw[if_pos h0]
        exact A9 key id fun h0=>by rw[if_pos h0]
      · rw[hN M,if_neg (fun h=>M (f6 (b1 (c1 (C h).1).1).1).1)];rfl
    · simp only[AW,AH,AM,Frag.row_mk]
   simp only[K34,rA,rL,rE,ho,rdC,i1];refine wa (a8f h1 _) rfl rfl ?_;rintro _ l ⟨rfl,c,rfl,hc,N⟩;have N:=N rfl;simp only[SS];refine wi (fun t=>?_) (fun t=>?_)
   · have t:c=true:=t;simp only[K34];refine wa (a2k h1 4 (by decide)) rfl rfl ?_;rintro _ c8 ⟨e4,h4,g1⟩;simp only[K34];exact tail c8 (e+1) e4 h4 (by omega) (fun h=>absurd h g1) fun _=>by rw[a1Z,← N,t,if_pos rfl]
   · have t:c=false:=t;simp only[K34];exact tail _ (e+1) 0 h1 (by omega) (fun _=>by rw[a1Z,← N,t,if_neg (by decide)]) fun h=>absurd rfl h
 · have hk:b=false:=hk;have c2:Q1 L e (first,D)=l6 (opP L e) fun o j=>some (false,j,(false,⟨D.ops++[o],D.frags⟩)):=by rw[Q1,if_neg (by rw[hE]; decide),if_neg (by rw[← b4,hk]; decide)]
   have J:∀ (m:Bool) (n:List Nat) (vs:List VDef) (l:St) (i3:Nat) (z:Int),Rd st1 L st1.length l i3 0 z→e≤i3→(vs.length≤3000∧∀ v∈vs,v.v.OK)→(z=0→opP L e=l6 (t6 L 24 i3) fun sub j=>some (⟨m,n,vs,sub⟩,j))→(z≠0→opP L e=none) →
    WC (fun I=>obind (p2 (p8 67 (k8 tbl I) [AV.ptr (List.length st1) 0] AV.undef l))
     (H7 (U3 1 (H7
      (a34s73_k0 (k8 tbl I) I (AV.str s) (AV.box [AV.list true [],AV.list true []]) (AV.int IntKind.i64 0) (AV.int IntKind.i64 0) (AV.list false (List.map Tok.row L)) (AV.int IntKind.i64 at') (AV.int IntKind.i64 0) (AV.ptr (List.length st1) 0) (AV.box [AV.list true (List.map Op.row D.ops),AV.list true (List.map Frag.row D.frags)]) (AV.bool first) a0 (AV.box [AV.bool m,AV.str n,AV.list true (vs.map VDef.row),AV.list true []]))
      (j1 (k8 tbl I) I a2C)))
     (j1 (k8 tbl I) I a2G))) (b1o st1 L s at' w mm):=by
    intro m n vs l i3 z O c4 a9 W hN;refine wa (c2N L st1.length 24 O (fun _=>⟨Int.le_refl _,by decide⟩)) rfl rfl ?_;rintro _ f3 ⟨sub,rfl,a7,c6,i7,d7,e7,h7,d3,C,a5⟩;have c3:(D.ops.length+1)*72≤2 ^ 47:=by omega
    simp only[K34,rA,rL,rE,c7n,AG,c3];have b6:rem L i7 e7 < rem L e 0:=a1r rfl Z.hi (fun h0=>by have:=(C h0).2.1; omega);refine wd (m':=rem L i7 e7) (by omega) ⟨i7,d7,e7,⟨D.ops++[⟨m,n,vs,sub⟩],D.frags⟩,false,a0,.box [.bool m,.str n,.list true (vs.map VDef.row),.list false (sub.map Sel.row)],h7,(fun h0=>(C h0).2.2),(fun h=>by cases h),⟨fun f hf=>?_,hD.frags⟩,rfl,by simp only[AF,AY,List.length_nil]; omega,d4.next (by omega) (fun h0=>by have:=(C h0).2.1; omega) ?_,?_⟩
    · rcases AQ.1 hf with h0|h0
      · exact hD.ops f h0
      · simp at h0; subst h0; exact⟨a9,c6,a7⟩
    · rw[c2];by_cases M:z=0
      · rw[W M];have key:=A9 (k:=fun sub j=>some ((⟨m,n,vs,sub⟩:Op),j)) (e2:=e7) (y:=(⟨m,n,vs,sub⟩,i7)) (a5 M) id fun h0=>by rw[if_pos h0]
        exact A9 key id fun h0=>by rw[if_pos h0]
      · rw[hN M,if_neg (fun h=>M (C h).1)];rfl
    · simp only[AW,AH,AM,Op.row_mk]
   have T:∀ (m:Bool) (n:List Nat) (l:St) (i3:Nat) (z:Int),Rd st1 L st1.length l i3 0 z→e < i3→(z=0→opP L e=l6 (a0b L i3) fun vs i=>l6 (t6 L 24 i) fun sub j=>some (⟨m,n,vs,sub⟩,j))→(z≠0→opP L e=none) →
    WC (fun I=>obind (p2 (p8 69 (k8 tbl I) [AV.ptr (List.length st1) 0,AV.str [40]] AV.undef l))
     (H7 (U3 1 (H7
      (a34s67_k0 (k8 tbl I) I (AV.str s) (AV.box [AV.list true [],AV.list true []]) (AV.int IntKind.i64 0) (AV.int IntKind.i64 0) (AV.list false (List.map Tok.row L)) (AV.int IntKind.i64 at') (AV.int IntKind.i64 0) (AV.ptr (List.length st1) 0) (AV.box [AV.list true (List.map Op.row D.ops),AV.list true (List.map Frag.row D.frags)]) (AV.bool first) a0 (AV.box [AV.bool m,AV.str n,AV.list true [],AV.list true []]))
      (j1 (k8 tbl I) I (a34s73.seq a2C))))
     (j1 (k8 tbl I) I a2G))) (b1o st1 L s at' w mm):=by
    intro m n l i3 z O c4 W hN;refine wa (E9 O _) rfl rfl ?_;rintro _ st8 (⟨rfl,rfl,a2⟩|⟨rfl,rfl,h8,a2⟩)
    · simp only[K34];refine J m n [] _ i3 z O (by omega) ⟨by simp,by simp⟩ (fun h0=>?_) hN;rw[W h0,a0b,a2 h0,if_neg (by decide)]; rfl
    · simp only[K34,rA,rL,rE];refine wa (c3Q h8) rfl rfl ?_;rintro _ n3 ⟨v,rfl,hv,i9,e9,h9,l1,l2,g0⟩;obtain⟨qn,tn,o2,tb,has,vk,vn,o5,vx,vy,ev⟩:=v.row_cells;have d6:1*152≤2 ^ 47:=by decide
      simp only[SS,rA,ev,d6];have f1:∃ w2,w2=(if e9=0 then C7 (a08 L) 2002 i9 [v]else none):=⟨_,rfl⟩
      obtain⟨w2,f0⟩:=f1;have hV:a0b L i3=w2:=by
       rw[a0b,a2,if_pos rfl,g0 rfl,f0];by_cases h0:e9=0
       · rw[if_pos h0,if_pos h0]; rfl
       · rw[if_neg h0,if_neg h0]; rfl
      have W:=W rfl;rw[hV]at W;have l4:=h8.hi;have a6:∀ (vs:List VDef) (i6:Nat) (U:Int),(w2=if U=0 then some (vs,i6)else none)→(U=0→opP L e=l6 (t6 L 24 i6) fun sub j=>some (⟨m,n,vs,sub⟩,j))∧(U≠0→opP L e=none):=by
       intro vs i6 U f2;refine⟨fun h0=>?_,fun h0=>?_⟩
       · rw[W,f2,if_pos h0]; rfl
       · rw[W,f2,if_neg h0]; rfl
      refine wg (fun c7 fr st'=>∃ (i6:Nat) (U:Int) (vs:List VDef),Rd st1 L st1.length st' i6 0 U∧i9≤i6∧(∀ v∈vs,v.v.OK)∧c7=rem L i6 U∧vs.length+c7≤L.length+1∧LoopAt (a08 L) w2 i6 vs U∧fr=[.str s,.box [.list true [],.list true []],.int .i64 0,.int .i64 0,.list false (L.map Tok.row),.int .i64 at',.int .i64 0,.ptr st1.length 0,.box [.list true (D.ops.map Op.row),.list true (D.frags.map Frag.row)],.bool first,a0,.box [.bool m,.str n,.list true (vs.map VDef.row),.list true []]]) (m:=rem L i9 e9) ⟨i9,e9,[v],h9,AK _,(by simpa using hv),rfl,(by have:=a2o L i9 e9; simp only[AY,List.length_nil]; omega),LoopAt.start _ _ _ _ f0,by simp only[AH,AM,ev]⟩ ?_;rintro c7 fr k2 ⟨i6,U,vs,h6,f7,a9,k1,g5,a4,rfl⟩;obtain⟨i0,e1⟩:=h6.ob;have l3:=h6.hi;by_cases b5:U=0
      rotate_left
      · have hf:eqI U 0=false:=by rw[eqI_eq]; simpa using b5
        simp only[K34,rE,e1,rdC,hf];refine we ?_;simp only[K34];have hx:=a6 vs i6 U (by rw[if_neg b5]; exact a4.bad b5);exact J m n vs _ i6 U h6 (by omega) ⟨by omega,a9⟩ hx.1 hx.2
      subst b5;simp only[K34,rE,e1,rdC,show eqI 0 0=true from rfl];refine wa (E9 h6 _) rfl rfl ?_;rintro _ k3 (⟨rfl,rfl,a1⟩|⟨rfl,_,f4,a1⟩)
      · simp only[K34,rA,rL,rE];refine wa (c3Q h6) rfl rfl ?_;rintro _ k4 ⟨u,rfl,hu,i12,c0,f5,i2,b7,d5⟩;obtain⟨n2,o1,k5,o0,j2,o3,o4,k6,o6,o7,d1⟩:=u.row_cells;have e0:(vs.length+1)*152≤2 ^ 47:=by omega
        have b6:rem L i12 c0 < rem L i6 0:=a1r rfl h6.hi (fun h0=>(b7 h0).2);simp only[SS,rA,d1,d2F,AG,e0];refine wd (m':=rem L i12 c0) (by omega) ⟨i12,c0,vs++[u],f5,by omega,fun x hx=>?_,rfl,by simp only[AF,AY,List.length_nil]; omega,a4.next (by omega) (fun h0=>(b7 h0).2) ?_,?_⟩
        · rcases AQ.1 hx with h0|h0
          · exact a9 x h0
          · simp at h0; subst h0; exact hu
        · rw[a08,a1 rfl,if_neg (by decide)];exact A9 (d5 rfl) id fun h0=>by rw[if_pos h0]
        · simp only[AW,AH,AM,d1]
      · simp only[SS];refine we ?_;simp only[K34];have hx:=a6 vs (i6+1) 0 (by rw[if_pos rfl]; exact a4.exit (by omega) (by rw[a08,a1]; rfl));exact J m n vs _ (i6+1) 0 f4 (by omega) ⟨by omega,a9⟩ hx.1 hx.2
   have b0:∀ (m:Bool) (l:St) (i3:Nat) (z:Int),Rd st1 L st1.length l i3 0 z→e≤i3→(z=0→e < i3)→(z=0→opP L e=l6 (a1s L i3) fun n i=>l6 (a0b L i) fun vs i=>l6 (t6 L 24 i) fun sub j=>some (⟨m,n,vs,sub⟩,j))→(z≠0→opP L e=none) →
    WC (fun I=>obind (p2 (p8 51 (k8 tbl I) [AV.ptr (List.length st1) 0,AV.int IntKind.u8 1] AV.undef l))
     (H7 (U3 1 (H7 (H7
      (a34s54_k0 (k8 tbl I) I (AV.str s) (AV.box [AV.list true [],AV.list true []]) (AV.int IntKind.i64 0) (AV.int IntKind.i64 0) (AV.list false (List.map Tok.row L)) (AV.int IntKind.i64 at') (AV.int IntKind.i64 0) (AV.ptr (List.length st1) 0) (AV.box [AV.list true (List.map Op.row D.ops),AV.list true (List.map Frag.row D.frags)]) (AV.bool first) a0 (AV.box [AV.bool m,AV.str [],AV.list true [],AV.list true []]))
      (j1 (k8 tbl I) I a7N))
      (j1 (k8 tbl I) I (a34s73.seq a2C))))
     (j1 (k8 tbl I) I a2G))) (b1o st1 L s at' w mm):=by
    intro m l i3 z O c4 b8 W hN;refine wa (a7U O 1) rfl rfl ?_;rintro _ h2 ⟨rfl,g,rfl,hg⟩;simp only[K34];refine wi (fun Y=>?_) (fun Y=>?_)
    · obtain⟨rfl,n0⟩:=hg.1 Y;simp only[K34,rA,rL,rE];refine wa (O9 O) rfl rfl ?_;rintro _ f3 ⟨n,rfl,i7,e7,h7,d3,C,a5⟩;simp only[K34,rA];have hO:a1s L i3=if e7=0 then some (n,i7)else none:=by rw[a1s,a6b O.hi hg,if_pos Y,a5 rfl]
      refine T m n _ i7 e7 h7 (by have:=b8 rfl; omega) (fun h0=>?_) (fun h0=>?_)
      · rw[W rfl,hO,if_pos h0]; rfl
      · rw[W rfl,hO,if_neg h0]; rfl
    · have Y:g=false:=Y;simp only[K34];by_cases h0:z=0
      · refine T m [] _ i3 z O (b8 h0) (fun h0=>?_) hN;subst h0;rw[W rfl,a1s,a6b O.hi hg,Y,if_neg (by decide)]; rfl
      · by_cases b6:e < i3
        · exact T m [] _ i3 z O b6 (fun h=>absurd h h0) hN
        · -- nothing is there any more: the brackets aren't, either
          refine wa (E9 O _) rfl rfl ?_;rintro _ st8 (⟨rfl,rfl,a2⟩|⟨rfl,g3,h8,a2⟩)
          · simp only[K34];exact J m [] [] _ i3 z O (by omega) ⟨by simp,by simp⟩ (fun h=>absurd h h0) hN
          · exact absurd g3 h0
   simp only[K34,rE];refine wa (a7S Z _) rfl rfl ?_;rintro _ l ⟨rfl,c,rfl,hc,N⟩;have N:=N rfl;simp only[SS];refine wi (fun t=>?_) (fun t=>?_)
   · have t:c=false:=by simpa using t
     have hO:opP L e=l6 (a4P L e) fun m i=>l6 (a1s L i) fun n i=>l6 (a0b L i) fun vs i=>l6 (t6 L 24 i) fun sub j=>some (⟨m,n,vs,sub⟩,j):=by rw[opP,← N,t,if_neg (by decide)]
     simp only[K34,rA,rL,rE];refine wa (E9 Z _) rfl rfl ?_;rintro _ c8 (⟨rfl,rfl,b2⟩|⟨rfl,_,h4,b2⟩)
     · simp only[K34,rE];refine wa (c6H Z _) rfl rfl ?_;rintro _ g7 ⟨i5,e5,h5,d2,b1,b3⟩;simp only[K34];refine b0 false _ i5 e5 h5 d2 b1 (fun h0=>?_) (fun h0=>?_)
       · rw[hO,a4P,b2 rfl,if_neg (by decide),b3,if_pos h0]; rfl
       · rw[hO,a4P,b2 rfl,if_neg (by decide),b3,if_neg h0]; rfl
     · simp only[K34,rE];refine b0 true _ (e+1) 0 h4 (by omega) (fun _=>by omega) (fun h0=>?_) (fun h0=>absurd rfl h0);rw[hO,a4P,b2,if_pos rfl]; rfl
   · have t:c=true:=by simpa using t
     simp only[K34];refine J false [] [] _ e 0 Z (AK _) ⟨by simp,by simp⟩ (fun h0=>?_) (fun h0=>absurd rfl h0);rw[opP,← N,t,if_pos rfl]
theorem d1N (s:List Nat) (I:St):EvQ tbl 34 [.str s] I (b7J s I):=by
 refine wj (fn:=a34) rfl rfl rfl ?_;simp only[K34,rS,rE];refine wa (b1q s I) rfl rfl ?_;rintro _ st1 ⟨rfl,L,at',e,rfl,hL,hT⟩;simp only[K34,rE];refine wi (fun W=>?_) (fun W=>?_)
 · have J:e≠0:=by rw[eqI_eq]at W; simpa using W
   simp only[K34,rA,rE];exact wc ⟨_,_,rfl,⟨[],[]⟩,at',e,rfl,⟨by simp,by simp⟩,by simp,by simp,by rw[a8O,hT,if_neg J,if_neg J],fun h=>absurd h J,[],by rw[List.append_nil],fun h=>absurd h J⟩
 have J:e=0:=by rw[eqI_eq]at W; simpa using W
 subst J;rw[if_pos rfl]at hT;obtain⟨N,O⟩:=hL rfl;have Z:0 < L.length:=by obtain⟨L',x,rfl,_⟩:=N; simp
 have hR:Rd st1 L st1.length (st1++[.cells [.list false (L.map Tok.row),.int .i64 0,.int .i64 0,.int .i64 0,.int .i64 0]]) 0 0 0:=⟨⟨N,O⟩,Z,⟨0,rfl⟩,rfl⟩;simp only[K34,rA,rL,rE];have a5:∃ w,w=C7 (Q1 L) 2002 0 (true,⟨[],[]⟩):=⟨_,rfl⟩
 obtain⟨w,M⟩:=a5;have hA:a8O s=l6 w fun x _=>some x.2:=by rw[a8O,hT,M]; rfl
 have a1:a7f L=l6 w fun x _=>some x.2:=by rw[M]; rfl
 refine wg (c69 st1 L st1.length s (.list false (L.map Tok.row)) (.int .i64 at') w) (m:=rem L 0 0) ⟨0,0,0,⟨[],[]⟩,true,_,_,hR,(fun _=>rfl),(fun _=>rfl),⟨by simp,by simp⟩,rfl,by simpa using a2o L 0 0,LoopAt.start _ _ _ _ (by rw[if_pos rfl,M]),rfl⟩ ?_;rintro mm fr st' ⟨i',d',e',D,first,a9,b0,C,U,a2,hD,Y,z,v,rfl⟩;obtain⟨bad',u⟩:=C.ob;have a6:=C.hi;cases first with
 | true =>obtain rfl:=a2 rfl;obtain rfl:=U rfl;simp only[K34,rE];exact b0t C hD Y z v rfl
 | false =>
  have a7:∀ y:Obj,(st'.set st1.length y)[st1.length]?=some y:=fun y=>r7 u
  have a0:∃ t,st'=st1++t∧∃ ob,t=[ob]:=by obtain⟨b,hb⟩:=C.sh;exact⟨_,hb,_,rfl⟩
  by_cases l:e'=0
  rotate_left
  · have hf:eqI e' 0=false:=by rw[eqI_eq]; simpa using l
    simp only[K34,rE,u,rdC,hf];refine we ?_;simp only[K34,rA,rE,u,rdC,hf];obtain⟨t,ht,_⟩:=a0;refine wc ⟨_,_,rfl,⟨[],[]⟩,bad',e',rfl,⟨by simp,by simp⟩,by simp,by simp,?_,fun h=>absurd h l,t,ht,fun h=>absurd h l⟩;rw[hA,v.bad l,if_neg l]; rfl
  subst l;obtain rfl:=U rfl;simp only[K34,rE,u,rdC,show eqI 0 0=true from rfl];refine wa (a7U C 0) rfl rfl ?_;rintro _ st2 ⟨rfl,b,rfl,hb⟩;have T:=a6b C.hi hb;cases b with
  | false =>simp only[K34];exact b0t C hD Y z v (by rw[T]; rfl)
  | true =>
   simp only[SS];refine we ?_;simp only[K34,rA,rE,u,rdC,show eqI 0 0=true from rfl];obtain⟨t,ht,a4⟩:=a0;have M:=v.exit (j:=i') (b:=(false,D)) (by omega) (by rw[Q1,T]; rfl);refine wc ⟨_,_,rfl,D,0,0,?_,hD,by omega,by omega,?_,fun _=>⟨L,O,by rw[a1,M]; rfl⟩,t,ht,fun _=>a4⟩
   · rfl
   · rw[hA,M,if_pos rfl]; rfl
end Go.Cb.CodeA
