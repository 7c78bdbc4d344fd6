import Derived.Test.YtbibkdncfclnbaaGreatDoorC6
set_option maxRecDepth 20000
set_option linter.all false
namespace Go.Cb.CodeA
open Go Go.Cb
open Nat renaming reduceAdd→rA,reduceSub→rS,reduceLeDiff→rL,reduceEqDiff→rE
attribute [local congr] g9 j3 j4 j5 i8 j0 j8 j9 V.runR_congr
structure Ent where
 t:List Nat
 id:List Nat
 ks:List (List Nat)
 ls:List Val
def Ent.row (e:Ent):List AV:=[.str e.t,.str e.id,.list false (e.ks.map b9),.list false (e.ls.map Val.row)]
def TB:Nat:=2 ^ 47
def Small (v:Val):Prop:=∃ k n s ls,v=.mk k n s [] ls∧((k≠6∧s.length≤TB)∧(k≠5→ls=[]))∧ls.length≤6∧∀ u∈ls,∃ k n s,u=.mk k n s [] []∧k≠6∧s.length≤TB
structure Ent.Good (e:Ent):Prop where
 kl:e.ks.length=e.ls.length
 le:e.ks.length≤6
 sm:∀ v∈e.ls,Small v
theorem a0U {ls:List Val} {i:Nat} (h:i < ls.length):(ls.map Val.row)[i]?=some (ls[i]).row:=by rw[AU,AE h]; rfl
theorem a0A {ks:List (List Nat)} {i:Nat} (h:i < ks.length):(ks.map b9)[i]?=some [.str ks[i]]:=by rw[AU,AE h]; rfl
theorem a4t (ks:List (List Nat)):l5 1 (ks.map b9)=true:=B3 fun r e=>by obtain⟨x,_,rfl⟩:=List.mem_map.1 e;rfl
theorem z2:((2:Int)=0)=False:=by simp
theorem z4:((4:Int)=0)=False:=by simp
theorem z5:((5:Int)=0)=False:=by simp
theorem z7:((7:Int)=0)=False:=by simp
theorem z8:((8:Int)=0)=False:=by simp
theorem z16:((16:Int)=0)=False:=by simp
theorem c1b {t d n:Int} {s:List Nat} {own:Bool} {refs:List (List AV)} {lack:Int} (e:Ent) (O:e.Good) (o1 o2:Bool) (v0 v3 v5 v6 v7 v8 v9 L Z v12 a0 a1 M N:AV) (st:St) :
 WC (fun k=>j1 (k8 tbl k) k a3A [v0,.box [.int .u8 t,.int .u8 d,.int .i32 n,.str s,.list own refs,.int .u8 lack],.box [.str [],.str [],.list true [],.list true []],v3,.box [.str e.t,.str e.id,.list o1 (e.ks.map b9),.list o2 (e.ls.map Val.row)],v5,v6,v7,v8,v9,L,Z,v12,a0,a1,M,N] st)
  (fun o=>∃ r st',Go.Cb.finK [.bx 2 true 4] (some o)=some (r,st')∧st'=st∧∃ e':Ent,r=.agg e'.row∧e'.Good∧e'.id=e.id∧e'.t=e.t):=by
 have a4:=O.kl;have a5:=O.le;simp +contextual only [K25,rE,z5,AG];refine wi (fun h=>?_) (fun h=>?_)
 · have I:1 < e.ks.length:=by
    have h2:ltI 1 (e.ks.length:Int)=true:=by
     rcases e8 (ltI 1 (e.ks.length:Int))with h2|h2
     · exact h2
     · rw[h2,Bool.and_false]at h; cases h
    rw[ltI_eq]at h2;have:=of_decide_eq_true h2;omega
   have W:((e.ks.length:Int)=0)=False:=by simp; intro hh; rw[hh]at I; simp at I
   simp only[K25,rE,z5,AG,W];refine wg (fun mm fr st'=>st'=st∧∃ (i:Nat) (T:Int) (K:List (List Nat)) (C:List Val),i≤e.ks.length∧mm=e.ks.length - i∧K.length=C.length∧K.length≤i∧(∀ v∈C,v∈e.ls)∧fr=[v0,.box [.int .u8 t,.int .u8 d,.int .i32 n,.str s,.list own refs,.int .u8 lack],.box [.str [],.str [],.list true [],.list true []],v3,.box [.str e.t,.str e.id,.list o1 (e.ks.map b9),.list o2 (e.ls.map Val.row)],v5,v6,v7,v8,v9,L,.int .i64 T,.list true (K.map b9),.list true (C.map Val.row),.int .i64 i,M,N]) (m:=e.ks.length) ⟨rfl,0,_,[],[],Aa _,rfl,rfl,AK _,by simp,rfl⟩ ?_;rintro mm fr st' ⟨rfl,i,T,K,C,hi,rfl,J,a2,z,rfl⟩;simp only[K25,rE,AG];by_cases y:i < e.ks.length
   · have U:=a0A y;have e2:=a0U (ls:=e.ls) (i:=i) (by omega);have Y:=List.getElem_mem (l:=e.ls) (n:=i) (by omega);revert U e2 Y;generalize e.ks[i]=x;generalize e.ls[i]=v;intro U e2 Y;obtain⟨k1,n1,s1,a6,a7,er⟩:=v.row_cells;rw[er]at e2;simp only[K25,rE,y];refine wi (fun h=>?_) (fun h=>?_)
     · simp only[K25,rA,rE,U,e2,X1,a0n,AG,k7 (show i+1 < 2 ^ 63 by omega),show(K.length+1)*16≤2 ^ 47 by omega,show(C.length+1)*80≤2 ^ 47 by omega];refine wd (m':=e.ks.length - (i+1)) (by omega) ⟨rfl,i+1,T,K++[x],C++[v],y,rfl,by simp[J],by simp; omega,fun u hu=>?_,by rw[AW,AW,← er]; rfl⟩
       rcases AQ.1 hu with hu|hu
       · exact z u hu
       · rw[List.mem_singleton.1 hu]; exact Y
     · simp only[K25,rE,k7 (show i+1 < 2 ^ 63 by omega)];exact wd (m':=e.ks.length - (i+1)) (by omega) ⟨rfl,i+1,T,K,C,y,rfl,J,by omega,z,rfl⟩
   · simp only[SS,y];refine we ?_;simp only[K25,rA,rL,rE];refine wc ⟨_,_,rfl,rfl,⟨e.t,e.id,K,C⟩,rfl,⟨J,show K.length≤6 by omega,fun v hv=>O.sm v (z v hv)⟩,rfl,rfl⟩
 · simp only[K25,rA];exact wc ⟨_,_,rfl,rfl,e,rfl,O,rfl,rfl⟩
def idsL:List (List Nat):=[[97],[98],[99],[100],[101],[49,48],[57],[]]
def idS (d:Int):List Nat:=idsL.getD (d.tmod 8).toNat []
theorem b7S {d:Int} (l:0≤d):([[.str [97]],[.str [98]],[.str [99]],[.str [100]],[.str [101]],[.str [49,48]],[.str [57]],[.str []]]:List (List AV))[(d.tmod 8).toNat]?=some [.str (idS d)]:=by
 unfold idS;have u:0≤d.tmod 8:=Int.tmod_nonneg 8 l;have v:d.tmod 8 < 8:=Int.tmod_lt_of_pos d (by decide);obtain⟨k,t⟩:∃ k:Nat,d.tmod 8=k:=⟨(d.tmod 8).toNat,by omega⟩
 rw[t,Int.toNat_natCast];have e:k < 8:=by omega
 match k,e with
 | 0,_=>rfl
 | 1,_=>rfl
 | 2,_=>rfl
 | 3,_=>rfl
 | 4,_=>rfl
 | 5,_=>rfl
 | 6,_=>rfl
 | 7,_=>rfl
structure Thg where
 t:Int
 d:Int
 n:Int
 s:List Nat
 refs:List Int
 lack:Int
def a1Y (r:Int):List AV:=[.int .u8 r]
def Thg.row (x:Thg):List AV:=[.int .u8 x.t,.int .u8 x.d,.int .i32 x.n,.str x.s,.list false (x.refs.map a1Y),.int .u8 x.lack]
structure Thg.OK (x:Thg):Prop where
 d:0≤x.d
 refs:∀ r∈x.refs,0≤r
 n:-9223372036854775808≤x.n∧x.n < 9223372036854775808
 s:x.s.length≤TB
def personK:List (List Nat):=[[97,103,101],[102,114,105,101,110,100,115],[109,111,111,100],[110,97,109,101],[112,101,116],[116,97,103,115]]
def catK:List (List Nat):=[[108,105,118,101,115],[110,97,109,101],[111,119,110,101,114]]
def dogK:List (List Nat):=[[98,97,114,107,115]]
theorem Val.row0 (k n:Int) (s:List Nat):(Val.mk k n s [] []).row=[.int .u8 k,.int .i64 n,.str s,.list false [],.list false []]:=by rw[Val.row_eq]; rfl
theorem Val.rowL (k n:Int) (s:List Nat) (ls:List Val):(Val.mk k n s [] ls).row=[.int .u8 k,.int .i64 n,.str s,.list false [],.list false (ls.map Val.row)]:=by rw[Val.row_eq]; rfl
theorem a1y {k n:Int} {s:List Nat} (h:k≠6∧s.length≤TB):Small (.mk k n s [] []):=⟨k,n,s,[],rfl,⟨h,fun _=>rfl⟩,by decide,by simp⟩
def a6n (nm:Int) (e:List Val) (md:List Nat) (tk tn:Int) (ts:List Nat) (ok:Int) (os:List Nat):List Val:=[.mk 1 nm [] [] [],.mk 5 0 [] [] e,.mk 4 0 md [] [],.mk tk tn ts [] [],.mk ok 0 os [] [],.mk 5 0 [] [] [.mk tk tn ts [] [],.mk 0 0 [] [] []]]
theorem b3C {nm:Int} {l:List Val} {md:List Nat} {tk tn:Int} {ts:List Nat} {ok:Int} {os t id:List Nat} (e:tk≠6∧ts.length≤TB) (y:ok≠6∧os.length≤TB) (x:md.length≤TB) (hL:l.length≤6∧∀ u∈l,∃ k n s,u=.mk k n s [] []∧k≠6∧s.length≤TB):(⟨t,id,personK,a6n nm l md tk tn ts ok os⟩:Ent).Good:=by
 refine⟨rfl,show personK.length≤6 by decide,fun v z=>?_⟩;simp only[a6n,List.mem_cons,List.not_mem_nil,or_false]at z;rcases z with rfl|rfl|rfl|rfl|rfl|rfl
 · exact a1y ⟨by decide,by decide⟩
 · exact⟨_,_,_,_,rfl,⟨⟨by decide,by decide⟩,fun h=>absurd rfl h⟩,hL.1,hL.2⟩
 · exact a1y ⟨by decide,x⟩
 · exact a1y e
 · exact a1y y
 · refine⟨_,_,_,_,rfl,⟨⟨by decide,by decide⟩,fun h=>absurd rfl h⟩,by simp,fun u hu=>?_⟩;simp only[List.mem_cons,List.not_mem_nil,or_false]at hu;rcases hu with rfl|rfl
   · exact⟨_,_,_,rfl,e⟩
   · exact⟨_,_,_,rfl,by decide,by decide⟩
theorem b3K {t d n:Int} {s:List Nat} {own:Bool} {refs:List (List AV)} {lack:Int} (id:List Nat) (tk tn nm ok:Int) (ts os:List Nat) (M:List Val) (T:tk≠6∧ts.length≤TB) (O:ok≠6∧os.length≤TB) (hL:M.length≤6∧∀ u∈M,∃ k n s,u=.mk k n s [] []∧k≠6∧s.length≤TB) (b1 b2 b3 b4 b5 b6:Bool) (v0 v3 v9:AV) (st:St) :
 WC (fun k=>j1 (k8 tbl k) k a8I [v0,.box [.int .u8 t,.int .u8 d,.int .i32 n,.str s,.list own refs,.int .u8 lack],.box [.str [],.str [],.list true [],.list true []],v3,.box [.str [],.str id,.list true [],.list true []],
  .box [.int .u8 tk,.int .i64 tn,.str ts,.list b1 [],.list b2 []],.box [.int .u8 1,.int .i64 nm,.str [],.list true [],.list true []],.box [.int .u8 5,.int .i64 0,.str [],.list b3 [],.list b4 (M.map Val.row)],.box [.int .u8 ok,.int .i64 0,.str os,.list b5 [],.list b6 []],v9,.undef,.undef,.undef,.undef,.undef,.undef,.undef] st)
  (fun o=>∃ r st',Go.Cb.finK [.bx 2 true 4] (some o)=some (r,st')∧st'=st∧∃ e':Ent,r=.agg e'.row∧e'.Good∧e'.id=id):=by
 have fin:∀ (e:Ent) (hg:e.Good) (he:e.id=id) (ks ls:List (List AV)) (h1:ks=e.ks.map b9) (h2:ls=e.ls.map Val.row) (o1 o2:Bool) (w0 w3 w5 w6 w7 w8 w9 x y z C I J L:AV),WC (fun k=>j1 (k8 tbl k) k a3A [w0,.box [.int .u8 t,.int .u8 d,.int .i32 n,.str s,.list own refs,.int .u8 lack],.box [.str [],.str [],.list true [],.list true []],w3,.box [.str e.t,.str id,.list o1 ks,.list o2 ls],w5,w6,w7,w8,w9,x,y,z,C,I,J,L] st)
  (fun o=>∃ r st',Go.Cb.finK [.bx 2 true 4] (some o)=some (r,st')∧st'=st∧∃ e':Ent,r=.agg e'.row∧e'.Good∧e'.id=id):=by
  intro e hg he ks ls h1 h2 o1 o2 w0 w3 w5 w6 w7 w8 w9 x y z C I J L;subst h1; subst h2; subst he;exact(c1b e hg o1 o2 w0 w3 w5 w6 w7 w8 w9 x y z C I J L st).mono fun o ⟨r,st',h1,h2,e',h3,h4,h5,_⟩=>⟨r,st',h1,h2,e',h3,h4,h5⟩
 have l:∀ (md:List Nat) (N:md.length≤TB) (v9 W v12 Y Z a0 a1:AV) (b7 b8:Bool),WC (fun k=>j1 (k8 tbl k) k a3A [v0,.box [.int .u8 t,.int .u8 d,.int .i32 n,.str s,.list own refs,.int .u8 lack],.box [.str [],.str [],.list true [],.list true []],v3,.box [.str [80,101,114,115,111,110],.str id,.list true [[.str [97,103,101]],[.str [102,114,105,101,110,100,115]],[.str [109,111,111,100]],[.str [110,97,109,101]],[.str [112,101,116]],[.str [116,97,103,115]]],.list true [[.int .u8 1,.int .i64 nm,.str [],.list false [],.list false []],[.int .u8 5,.int .i64 0,.str [],.list false [],.list false (M.map Val.row)],[.int .u8 4,.int .i64 0,.str md,.list false [],.list false []],[.int .u8 tk,.int .i64 tn,.str ts,.list false [],.list false []],[.int .u8 ok,.int .i64 0,.str os,.list false [],.list false []],[.int .u8 5,.int .i64 0,.str [],.list false [],.list false [[.int .u8 tk,.int .i64 tn,.str ts,.list false [],.list false []],[.int .u8 0,.int .i64 0,.str [],.list false [],.list false []]]]]],
  .box [.int .u8 tk,.int .i64 tn,.str ts,.list b1 [],.list b2 []],.box [.int .u8 1,.int .i64 nm,.str [],.list true [],.list true []],.box [.int .u8 5,.int .i64 0,.str [],.list b3 [],.list b4 (M.map Val.row)],.box [.int .u8 ok,.int .i64 0,.str os,.list b5 [],.list b6 []],v9,.box [.int .u8 4,.int .i64 0,.str md,.list b7 [],.list b8 []],W,v12,Y,Z,a0,a1] st)
  (fun o=>∃ r st',Go.Cb.finK [.bx 2 true 4] (some o)=some (r,st')∧st'=st∧∃ e':Ent,r=.agg e'.row∧e'.Good∧e'.id=id):=fun md N v9 W v12 Y Z a0 a1 b7 b8=>by
  refine fin ⟨[80,101,114,115,111,110],id,personK,a6n nm M md tk tn ts ok os⟩ (b3C T O N hL) rfl _ _ rfl ?_ true true v0 v3 _ _ _ _ _ _ _ _ _ _ _ _;simp only[a6n,AH,AM,Val.rowL]
 simp (maxSteps:=1000000) (contextual:=true) (implicitDefEqProofs:=false) only [a0d,rE,b3R,z4];rcases e8 (eqI (t.tmod 4) 0)with h0|h0
 · simp (maxSteps:=1000000) (contextual:=true) (implicitDefEqProofs:=false) only [a0d,rA,rL,rE,h0,Nat.reduceLT,z7];refine wi (fun h7=>?_) (fun h7=>?_)
   · simp (maxSteps:=1000000) (contextual:=true) (implicitDefEqProofs:=false) only [a0d,rA,rL,rE,Nat.reduceLT];exact l _ (by decide) _ _ _ _ _ _ _ _ _
   · simp (maxSteps:=1000000) (contextual:=true) (implicitDefEqProofs:=false) only [a0d,rA,rL,rE,Nat.reduceLT];exact l _ (by decide) _ _ _ _ _ _ _ _ _
 rcases e8 (eqI (t.tmod 4) 1)with h1|h1
 · simp (maxSteps:=1000000) (contextual:=true) (implicitDefEqProofs:=false) only [a0d,rA,rL,rE,h0,h1,Nat.reduceLT,z7];refine wi (fun h7=>?_) (fun h7=>?_)
   · simp (maxSteps:=1000000) (contextual:=true) (implicitDefEqProofs:=false) only [a0d,rA,rL,rE,Nat.reduceLT];exact l _ (by decide) _ _ _ _ _ _ _ _ _
   · simp (maxSteps:=1000000) (contextual:=true) (implicitDefEqProofs:=false) only [a0d,rA,rL,rE,Nat.reduceLT];exact l _ (by decide) _ _ _ _ _ _ _ _ _
 rcases e8 (eqI (t.tmod 4) 2)with h2|h2
 · simp (maxSteps:=1000000) (contextual:=true) (implicitDefEqProofs:=false) only [a0d,rA,rL,rE,h0,h1,h2];refine fin ⟨[67,97,116],id,catK,[.mk 1 nm [] [] [],.mk tk tn ts [] [],.mk ok 0 os [] []]⟩ ⟨rfl,show catK.length≤6 by decide,fun v U=>?_⟩ rfl _ _ rfl ?_ true true _ _ _ _ _ _ _ _ _ _ _ _ _ _
   · simp only[List.mem_cons,List.not_mem_nil,or_false]at U;rcases U with rfl|rfl|rfl
     · exact a1y ⟨by decide,by decide⟩
     · exact a1y T
     · exact a1y O
   · simp only[AH,AM,Val.rowL]
 · simp (maxSteps:=1000000) (contextual:=true) (implicitDefEqProofs:=false) only [a0d,rA,rL,rE,h0,h1,h2,z2];refine fin ⟨[68,111,103],id,dogK,[.mk 3 (n7 .i64 (lack.tmod 2)) [] [] []]⟩ ⟨rfl,show dogK.length≤6 by decide,fun v U=>?_⟩ rfl _ _ rfl ?_ true true _ _ _ _ _ _ _ _ _ _ _ _ _ _
   · simp only[List.mem_cons,List.not_mem_nil,or_false]at U;rw[U];exact a1y ⟨by decide,by decide⟩
   · simp only[AH,AM,Val.rowL]
theorem b3E (d:Int):(idS d).length≤TB:=by
 have h:∀ i,(idsL.getD i []).length≤2:=fun i=>by
  rcases Nat.lt_or_ge i 8 with h|h
  · rcases i with _|_|_|_|_|_|_|_|i<;>first|decide|omega
  · rw[List.getD_eq_getElem?_getD,List.getElem?_eq_none (show idsL.length≤i from h)]; decide
 exact Nat.le_trans (h _) (by decide)
theorem c0N {x:Thg} (hx:x.OK) (st:St):EvQ tbl 25 [.agg x.row] st (fun a st'=>st'=st∧∃ e:Ent,a=.agg e.row∧e.Good∧e.id=idS x.d):=by
 obtain⟨t,d,n,s,refs,lack⟩:=x;obtain⟨M,hr,O,J⟩:=hx;dsimp only at M hr O J;have hid:=b7S M;have N:0≤d.tmod 8:=Int.tmod_nonneg 8 M;unfold Thg.row;refine wj (fn:=a25) rfl rfl rfl ?_;simp (maxSteps:=1000000) (contextual:=true) (implicitDefEqProofs:=false) only [a0d,rA,rS,rL,rE,Nat.reduceLT,z8,hid,N,S2 O.1 O.2];refine wg (fun mm fr st'=>st'=st∧∃ (i:Nat) (l:List Val) (ok:Int) (os:List Nat) (W b4 Y Z:Bool),i≤6∧mm=6 - i∧l.length≤i∧(∀ u∈l,∃ k n s,u=.mk k n s [] []∧k≠6∧s.length≤TB)∧(ok≠6∧os.length≤TB)∧fr=[.agg [.int .u8 t,.int .u8 d,.int .i32 n,.str s,.list false (refs.map a1Y),.int .u8 lack],.box [.int .u8 t,.int .u8 d,.int .i32 n,.str s,.list false (refs.map a1Y),.int .u8 lack],.box [.str [],.str [],.list true [],.list true []],.list true [[.str [97]],[.str [98]],[.str [99]],[.str [100]],[.str [101]],[.str [49,48]],[.str [57]],[.str []]],.box [.str [],.str (idS d),.list true [],.list true []],
  .box [.int .u8 2,.int .i64 0,.str s,.list true [],.list true []],.box [.int .u8 1,.int .i64 n,.str [],.list true [],.list true []],.box [.int .u8 5,.int .i64 0,.str [],.list W [],.list true (l.map Val.row)],.box [.int .u8 ok,.int .i64 0,.str os,.list Y [],.list Z []],.int .i64 i,.undef,.undef,.undef,.undef,.undef,.undef,.undef]) (m:=6) ⟨rfl,0,[],_,_,_,true,_,_,by decide,rfl,by simp,by simp,⟨by decide,by decide⟩,rfl⟩ ?_
 rintro mm fr st' ⟨rfl,i,l,ok,os,W,b4,Y,Z,hi,rfl,a0,z,I,rfl⟩;simp only[a0d,rE,AG];rcases e8 (decide (i < refs.length) && ltI (i:Int) 6)with hc|hc
 · have C:i < refs.length:=by rw[AA]at hc;exact of_decide_eq_true hc.1
   have a1:i < 6:=by rw[AA,ltI_eq]at hc;have:=of_decide_eq_true hc.2;omega
   have L:(refs.map a1Y)[i]?=some [.int .u8 refs[i]]:=by rw[AU,AE C]; rfl
   have v:=hr _ (List.getElem_mem C);revert L v;generalize refs[i]=r;intro L v;have T:=b7S v;have U:0≤r.tmod 8:=Int.tmod_nonneg 8 v;simp (maxSteps:=1000000) (contextual:=true) (implicitDefEqProofs:=false) only [a0d,rA,rL,rE,hc,L,T,U,z8,a0n,AG,k7 (show i+1 < 2 ^ 63 by omega),show(l.length+1)*80≤2 ^ 47 by omega];refine wd (m':=6 - (i+1)) (by omega) ⟨rfl,i+1,l++[.mk 8 0 (idS r) [] []],8,_,_,true,_,_,by omega,rfl,by simp; omega,fun u hu=>?_,⟨by decide,b3E r⟩,by rw[AW,AH,AM,Val.row0]⟩
   rcases AQ.1 hu with hu|hu
   · exact z u hu
   · exact⟨_,_,_,List.mem_singleton.1 hu,by decide,b3E r⟩
 · simp (maxSteps:=1000000) (contextual:=true) (implicitDefEqProofs:=false) only [SS,hc];refine we ?_;simp (maxSteps:=1000000) (contextual:=true) (implicitDefEqProofs:=false) only [a0d,rE,z16];have y:l.length≤6∧∀ u∈l,∃ k n s,u=Val.mk k n s [] []∧k≠6∧s.length≤TB:=⟨by omega,z⟩
   refine wi (fun h7=>?_) (fun h7=>?_)
   · simp (maxSteps:=1000000) (contextual:=true) (implicitDefEqProofs:=false) only [a0d,rA];exact b3K (idS d) 1 n n ok [] os l ⟨by decide,by decide⟩ I y _ _ _ _ _ _ _ _ _ _
   · simp (maxSteps:=1000000) (contextual:=true) (implicitDefEqProofs:=false) only [SS];exact b3K (idS d) 2 0 n ok s os l ⟨by decide,J⟩ I y _ _ _ _ _ _ _ _ _ _
theorem a6d (a b:List Nat):eqN a b=true↔a=b:=by rw[a3u]; simp
theorem R2 (a:List Nat):eqN a a=true:=(a6d a a).2 rfl
theorem a4m:∀ a:List Nat,m2 a a=false
 | []=>rfl
 | a::x=>by
  have h:Nat.blt a a=false:=by
   rcases e8 (Nat.blt a a)with h|h
   · rw[Nat.blt_eq]at h; omega
   · exact h
  rw[m2,h,a4m x,Bool.and_false];rfl
theorem a7p:∀ a b:List Nat,m2 a b=false→m2 b a=false→a=b
 | [],[],_,_=>rfl
 | [],b::y,h,_=>by simp[m2]at h
 | a::x,[],_,h=>by simp[m2]at h
 | a::x,b::y,e,l=>by
  simp only[m2,Bool.or_eq_false_iff,Bool.and_eq_false_iff]at e l;obtain⟨e,h3⟩:=e;obtain⟨l,h4⟩:=l;have u:¬ a < b:=fun h=>by
   have:Nat.blt a b=true:=by simpa[Nat.blt_eq]using h
   rw[this]at e; cases e
  have e2:¬ b < a:=fun h=>by
   have:Nat.blt b a=true:=by simpa[Nat.blt_eq]using h
   rw[this]at l; cases l
  obtain rfl:a=b:=by omega
  have t:Nat.beq a a=true:=by simp
  rw[t]at h3 h4;rcases h3 with h3|h3
  · cases h3
  rcases h4 with h4|h4
  · cases h4
  rw[a7p x y h3 h4]
theorem a0t:∀ a b c:List Nat,m2 a b=true→m2 b c=true→m2 a c=true
 | _,[],_,h,_=>by simp[m2]at h
 | _,_::_,[],_,h=>by simp[m2]at h
 | [],_::_,_::_,_,_=>rfl
 | a::x,b::y,c::z,l,e=>by
  simp only[m2,Bool.or_eq_true,AA,Nat.blt_eq,Nat.beq_eq]at l e ⊢;rcases l with l|⟨l,t⟩
  · rcases e with e|⟨e,_⟩
    · left; omega
    · left; omega
  · rcases e with e|⟨e,u⟩
    · left; omega
    · right; exact⟨by omega,a0t x y z t u⟩
def m4 (es:List Ent):List AV:=es.flatMap Ent.row
theorem a3n (es:List Ent):∀ i,(m4 es).drop (i*4)=m4 (es.drop i):=by
 induction es with
 | nil=>intro i; simp[m4]
 | cons e es l =>
  intro i;cases i with
  | zero=>rw[Nat.zero_mul,List.drop_zero,List.drop_zero]
  | succ i =>rw[List.drop_succ_cons,← l i,show(i+1)*4=i*4+4 by omega,← List.drop_drop,show m4 (e::es)=e.row++m4 es from rfl];rw[List.drop_drop,show i*4+4=4+i*4 by omega,← List.drop_drop];rfl
theorem a1O (es:List Ent):(m4 es).length=es.length*4:=by
 induction es with
 | nil=>rfl
 | cons e es l=>rw[show m4 (e::es)=e.row++m4 es from rfl,AF,l,AY]; simp[Ent.row]; omega
theorem a8v (a b:List Ent):m4 (a++b)=m4 a++m4 b:=by simp[m4]
theorem a9N {es:List Ent} {i:Nat} (h:i < es.length):l8 true 4 ((m4 es).drop (i*4))=some (.agg es[i].row):=by rw[a3n,List.drop_eq_getElem_cons h];rfl
def EntsAt (v:AV) (es:List Ent) (st:St):Prop:=(v=.nils∧es=[])∨∃ o,v=.sl o 0 es.length 4∧st[o]?=some (.cells (m4 es))
theorem c1G (l:List Thg) (h:∀ x∈l,x.OK) (st:St):EvQ tbl 15 [.list false (l.map Thg.row)] st (fun a st'=>st'=st∧∃ es:List Ent,a=.list false (es.map Ent.row)∧es.length≤12∧∀ e∈es,e.Good):=by
 refine wj (fn:=a15) rfl rfl rfl ?_;simp only[K15,rS];refine wg (fun M fr st'=>st'=st∧∃ (i:Nat) (es:List Ent),i≤12∧M=12 - i∧es.length≤i∧(∀ e∈es,e.Good)∧fr=[.list false (l.map Thg.row),.list true [],.list true (es.map Ent.row),.int .i64 i]) (m:=12) ⟨rfl,0,[],by decide,rfl,by simp,by simp,rfl⟩ ?_;rintro M fr st' ⟨rfl,i,es,hi,rfl,U,J,rfl⟩;simp only[K15,rE,AG];rcases e8 (decide (i < l.length) && ltI (i:Int) 12)with hc|hc
 · have y:i < l.length:=by rw[AA]at hc;exact of_decide_eq_true hc.1
   have T:i < 12:=by rw[AA,ltI_eq]at hc;have:=of_decide_eq_true hc.2;omega
   have z:(l.map Thg.row)[i]?=some l[i].row:=by rw[AU,AE y]; rfl
   have I:=h _ (List.getElem_mem y);revert z I;generalize l[i]=x;intro z I;have L:=c0N I st';have ex:x.row=[.int .u8 x.t,.int .u8 x.d,.int .i32 x.n,.str x.s,.list false (x.refs.map a1Y),.int .u8 x.lack]:=rfl;rw[ex]at z L;simp +contextual only [K15,rA,rE,hc,z];refine wa L rfl rfl ?_;rintro _ _ ⟨rfl,e,rfl,O,_⟩;have C:l5 4 (es.map Ent.row)=true:=B3 fun r W=>by obtain⟨v,_,rfl⟩:=List.mem_map.1 W;rfl
   have N:e.row=[.str e.t,.str e.id,.list false (e.ks.map b9),.list false (e.ls.map Val.row)]:=rfl;rw[N];simp only[K15,rA,rE,C,AG,k7 (show i+1 < 2 ^ 63 by omega),show(es.length+1)*80≤2 ^ 47 by omega];refine wd (m':=12 - (i+1)) (by omega) ⟨rfl,i+1,es++[e],by omega,rfl,by simp; omega,fun u hu=>?_,by rw[AW]; rfl⟩
   rcases AQ.1 hu with hu|hu
   · exact J u hu
   · rw[List.mem_singleton.1 hu]; exact O
 · simp +contextual only [SS,hc];refine we ?_;simp only[K15];exact wc ⟨_,_,rfl,rfl,es,rfl,by omega,J⟩
theorem b96 (a b:List Nat):n4 .gtr (.str a) (.str b)=some (.bool !(m2 a b || eqN a b)):=a8 rfl
theorem Ent.row_w (e:Ent):List.map AV.weak1 e.row=e.row:=rfl
def a7c (a b:List Nat):Int:=if m2 a b then -1 else if eqN a b then 0 else 1
theorem c3B (e:Ent) (id:List Nat) (st:St):EvQ tbl 93 [.agg e.row,.str id] st (fun a st'=>st'=st∧a=.int .i64 (a7c e.id id)):=by
 have l:e.row=[.str e.t,.str e.id,.list false (e.ks.map b9),.list false (e.ls.map Val.row)]:=rfl;rw[l];refine wj (fn:=a93) rfl rfl rfl ?_;simp only[K93,rS,rE];rcases e8 (m2 e.id id)with h|h
 · simp only[K93,h];exact wc ⟨_,_,rfl,rfl,by rw[a7c,if_pos h]; rfl⟩
 rcases e8 (eqN e.id id)with h2|h2
 · simp only[K93,rE,h,h2,b96];exact wc ⟨_,_,rfl,rfl,by rw[a7c,h,if_neg (by decide),if_pos h2]; rfl⟩
 · simp only[K93,rE,h,h2,b96];exact wc ⟨_,_,rfl,rfl,by rw[a7c,h,if_neg (by decide),h2,if_neg (by decide)]; rfl⟩
abbrev F5 (es:List Ent):Prop:=es.Pairwise fun a b=>m2 a.id b.id=true
def D9 (id:List Nat):List Ent→Nat
 | []=>0
 | e::es=>if m2 e.id id then D9 id es+1 else 0
def Q7 (id:List Nat) (es:List Ent):Bool:=match es[D9 id es]? with
 | some e=>eqN e.id id
 | none=>false
theorem b4B (id:List Nat):∀ es:List Ent,D9 id es≤es.length
 | []=>AK _
 | e::es=>by
  rw[D9];split
  · have:=b4B id es; rw[AY]; omega
  · omega
theorem b4G (id:List Nat):∀ (es:List Ent) (i:Nat),i≤es.length→(∀ k (h:k < es.length),k < i→m2 es[k].id id=true)→(∀ h:i < es.length,m2 es[i].id id=false)→D9 id es=i
 | [],i,h,_,_=>by simp at h; subst h; rfl
 | e::es,0,_,_,h2=>by rw[D9,show m2 e.id id=false from h2 (by simp)]; rfl
 | e::es,i+1,h,h1,h2=>by have l:m2 e.id id=true:=h1 0 (by simp) (by omega);rw[D9,if_pos l];rw[b4G id es i (by simpa using h) (fun k t u=>h1 (k+1) (by simpa using t) (by omega)) (fun hi=>h2 (by simpa using hi))]
theorem a6Q {es:List Ent} {o:Nat} {st:St} (h:st[o]?=some (.cells (m4 es))) {i:Nat} (hi:i < es.length) (call:d8) (bx:AV):J6 true 4 call [.ptr o (i*4)] bx st=some (.agg es[i].row,bx,st):=by rw[R.ldAn_ptr,h];dsimp only;rw[a9N hi];rfl
theorem d1Y {i j:Nat} (h:i+j < 2 ^ 62):n7 .i64 (Int.fdiv (n7 .u64 (n7 .i64 (a3i (i:Int) (j:Int)))) 2)=(((i+j) / 2:Nat):Int):=by
 have l:n7 .i64 ((i:Int)+(j:Int))=(i:Int)+(j:Int):=S2 (by omega) (by omega);rw[addI_eq,l];have:n7 .u64 ((i:Int)+(j:Int))=(i:Int)+(j:Int):=by rw[Q8];simp only[IntKind.wrap,IntKind.signed,IntKind.bits,Bool.false_and,Bool.false_eq_true,if_false];omega
 rw[this];have e:Int.fdiv ((i:Int)+(j:Int)) 2=(((i+j) / 2:Nat):Int):=by rw[Int.fdiv_eq_ediv_of_nonneg _ (by omega)];omega
 rw[e,S2 (by omega) (by omega)]
theorem d4K (a:Int):n4 .shr (.int .u64 a) (.int .u64 1)=some (.int .u64 (Int.fdiv a 2)):=by
 have:(2:Int) ^ (min (1:Int).toNat IntKind.u64.bits)=2:=by decide
 simp only[n4];rw[this];rfl
theorem c1M {es:List Ent} {v:AV} {st:St} (h:EntsAt v es st) (hs:F5 es) (hl:es.length≤100000) (id:List Nat):EvQ tbl 92 [v,.str id,.func 93 [] []] st (fun a st'=>st'=st∧a=.tuple [.int .i64 (D9 id es),.bool (Q7 id es)]):=by
 rcases h with⟨rfl,rfl⟩|⟨o,rfl,ho⟩
 · refine wj (fn:=a92) rfl rfl rfl ?_;simp only[K92,rS,rE];refine wg (fun U fr st'=>st'=st∧fr=[.nils,.str id,.func 93 [] [],.int .i64 0,.bool false,.int .i64 0,.int .i64 0,.int .i64 0,.undef]) (m:=0) ⟨rfl,rfl⟩ ?_;rintro U fr st' ⟨rfl,rfl⟩;simp only[K92,rE,show ltI 0 0=false from rfl];refine we ?_;simp only[K92,rE,show ltI 0 0=false from rfl];exact wc ⟨_,_,rfl,rfl,rfl⟩
 · refine wj (fn:=a92) rfl rfl rfl ?_;simp only[K92,rS,rE];refine wg (fun U fr st'=>st'=st∧∃ (i j:Nat) (v8:AV),i≤j∧j≤es.length∧U=j - i∧(∀ k (h:k < es.length),k < i→m2 es[k].id id=true)∧(∀ k (h:k < es.length),j≤k→m2 es[k].id id=false)∧fr=[.sl o 0 es.length 4,.str id,.func 93 [] [],.int .i64 0,.bool false,.int .i64 es.length,.int .i64 i,.int .i64 j,v8]) (m:=es.length) ⟨rfl,0,es.length,_,Aa _,AK _,by omega,fun k _ N=>absurd N (Nat.not_lt_zero _),fun k W T=>by omega,rfl⟩ ?_;rintro U fr st' ⟨rfl,i,j,v8,a1,hj,rfl,W,T,rfl⟩;simp only[K92,rE];by_cases O:i < j
   · have Z:(i+j) / 2 < es.length:=by omega
     have a2:i≤(i+j) / 2:=by omega
     have a0:(i+j) / 2 < j:=by omega
     have z:=d1Y (i:=i) (j:=j) (by omega);have u:=fun call bx=>a6Q ho Z call bx
     have l:=c3B (es[(i+j) / 2]) id st';have y:m2 es[(i+j) / 2].id id=true→∀ k (h:k < es.length),k < (i+j) / 2+1→m2 es[k].id id=true:=fun M k N Y=>by
      by_cases e:k=(i+j) / 2
      · subst e; exact M
      · exact a0t _ _ _ (List.pairwise_iff_getElem.1 hs k ((i+j) / 2) N Z (by omega)) M
     have t:m2 es[(i+j) / 2].id id=false→∀ k (h:k < es.length),(i+j) / 2≤k→m2 es[k].id id=false:=fun M k N Y=>by
      by_cases e:k=(i+j) / 2
      · subst e; exact M
      · rcases e8 (m2 es[k].id id)with h3|h3
        · have:=a0t _ _ _ (List.pairwise_iff_getElem.1 hs ((i+j) / 2) k Z N (by omega)) h3;rw[M]at this; cases this
        · exact h3
     revert u l y t z;generalize a4:(i+j) / 2=m at *
     generalize es[m]=e;intro z u l y t;have L:((m:Int) < (es.length:Int))=True:=by simp; omega
     simp only[K92,rE,O,d4K,z,L,u,Ent.row_w];refine wl l rfl rfl ?_;rintro _ _ ⟨rfl,rfl⟩;unfold a7c;rcases e8 (m2 e.id id)with hq|hq
     · simp only[K92,rE,hq,show ltI (-1) 0=true from rfl,k7 (show m+1 < 2 ^ 63 by omega)];exact wd (m':=j - (m+1)) (by omega) ⟨rfl,m+1,j,_,by omega,hj,rfl,y hq,T,rfl⟩
     · have:ltI (if eqN e.id id=true then 0 else 1) 0=false:=by split<;>rfl
       simp only[K92,hq,this];exact wd (m':=m - i) (by omega) ⟨rfl,i,m,_,by omega,by omega,rfl,W,t hq,rfl⟩
   · simp only[SS,O];refine we ?_;obtain rfl:i=j:=by omega
     have C:D9 id es=i:=b4G id es i hj W (fun h=>T i h (AK _));by_cases x:i < es.length
     · have u:=fun call bx=>a6Q ho x call bx
       have l:=c3B (es[i]) id st';have J:=T i x (AK _);have I:Q7 id es=eqN es[i].id id:=by rw[Q7,C,AE x]
       have L:((i:Int) < (es.length:Int))=True:=by simp; omega
       rw[C,I];revert u l J;generalize es[i]=e;intro u l J;simp only[K92,rE,x,L,u,Ent.row_w];refine wl l rfl rfl ?_;rintro _ _ ⟨rfl,rfl⟩;simp only[SS];refine wc ⟨_,_,rfl,rfl,?_⟩;have:eqI (a7c e.id id) 0=eqN e.id id:=by unfold a7c;rw[J,if_neg (by decide)];cases eqN e.id id<;>rfl
       rw[this];rfl
     · have I:Q7 id es=false:=by rw[Q7,C,List.getElem?_eq_none (by omega)]
       rw[C,I];simp only[K92,rE,x];exact wc ⟨_,_,rfl,rfl,rfl⟩
theorem a7h (es:List Ent):(m4 es).map AV.weak1=m4 es:=by
 induction es with
 | nil=>rfl
 | cons e es l=>rw[show m4 (e::es)=e.row++m4 es from rfl,AW,l]; rfl
theorem EntsAt.gr {v:AV} {es:List Ent} {st st':St} (h:EntsAt v es st) (t:Gr st st'):EntsAt v es st':=by
 rcases h with h|⟨o,e,l⟩
 · exact .inl h
 · exact .inr ⟨o,e,t o _ l⟩
theorem EntsAt.wk {v:AV} {es:List Ent} {st:St} (h:EntsAt v es st):v.weak=v∧v.weak1=v∧v.strip=v∧v.stripB=v∧v.plain=true∧v.cells=[v]∧v.cellsW=[v]:=by rcases h with⟨rfl,_⟩|⟨o,rfl,_⟩<;>exact⟨rfl,rfl,rfl,rfl,rfl,rfl,rfl⟩
theorem b7l (st:St):EvQ tbl 47 [.nils] st (fun a st'=>a=.nils∧st'=st):=EvQ.of_ext (fn:=a47) rfl rfl (r:=(.nils,st)) rfl ⟨rfl,rfl⟩
theorem b9y {es:List Ent} {o:Nat} {st:St} (h:st[o]?=some (.cells (m4 es))) (l:es.length≤100000):EvQ tbl 47 [.sl o 0 es.length 4] st (fun a st'=>a=.sl st.length 0 es.length 4∧st'=st++[.cells (m4 es)]):=by refine EvQ.of_ext (fn:=a47) (e:=a2h 4 80) (r:=(.sl st.length 0 es.length 4,st++[.cells (m4 es)])) rfl rfl ?_ ⟨rfl,rfl⟩;unfold a2h;dsimp only;rw[h];dsimp only;rw[if_pos ⟨rfl,by rw[a1O]; omega,by omega⟩,List.drop_zero,← a1O,List.take_length,a7h]
theorem c01 (x:Ent) (st:St):EvQ tbl 88 [.nils,.int .i64 0,.list false [x.row]] st (fun a st'=>a=.sl st.length 0 1 4∧st'=st++[.cells (m4 [x])]) :=
 EvQ.of_ext (fn:=a88) (e:=a0i 4 80) (r:=(.sl st.length 0 1 4,st++[.cells (m4 [x])])) rfl rfl (by unfold a0i; dsimp only; rw[if_pos ⟨rfl,rfl⟩]; rfl) ⟨rfl,rfl⟩
theorem a6z (es:List Ent):∀ i,(m4 es).take (i*4)=m4 (es.take i):=by
 induction es with
 | nil=>intro i; simp[m4]
 | cons e es l =>
  intro i;cases i with
  | zero=>rw[Nat.zero_mul,List.take_zero,List.take_zero]; rfl
  | succ i =>rw[List.take_succ_cons,show m4 (e::es)=e.row++m4 es from rfl,show m4 (e::es.take i)=e.row++m4 (es.take i)from rfl,← l i,show(i+1)*4=i*4+4 by omega];rfl
theorem c4D {es:List Ent} {o:Nat} {st:St} (x:Ent) (h:st[o]?=some (.cells (m4 es))) (l:es.length≤100000) {i:Nat} (hi:i≤es.length):EvQ tbl 88 [.sl o 0 es.length 4,.int .i64 i,.list false [x.row]] st (fun a st'=>a=.sl st.length 0 (es.length+1) 4∧st'=st.set o .dead++[.cells (m4 (es.take i++x::es.drop i))]):=by refine EvQ.of_ext (fn:=a88) (e:=a0i 4 80) (r:=(.sl st.length 0 (es.length+1) 4,st.set o .dead++[.cells (m4 (es.take i++x::es.drop i))])) rfl rfl ?_ ⟨rfl,rfl⟩;simp only[a0i,h];rw[if_pos ⟨trivial,by omega,by omega,a1O es,rfl,by omega⟩,Int.toNat_natCast,O7,a6z,a3n,a8v];rw[show m4 (x::es.drop i)=x.row++m4 (es.drop i)from rfl,AW,AW,a7h,a7h,AX];rfl
theorem b2O {es:List Ent} {v:AV} {st:St} (h:EntsAt v es st) (l:F5 es) (e:es.length≤100000) (id:List Nat):EvQ tbl 48 [.agg [v],.str id] st (fun a st'=>st'=st∧a=.tuple [.int .i64 (D9 id es),.bool (Q7 id es)]):=by obtain⟨w1,t,y,u,x,z,C⟩:=h.wk;refine wj (fn:=a48) rfl rfl rfl ?_;simp only[K48,rS,rE,w1,t,u];refine wa (c1M h l e id) (by simp only[D1,x]; rfl) (by simp only[AH,AM,w1]; rfl) ?_;rintro _ _ ⟨rfl,rfl⟩;simp only[SS];exact wc ⟨_,_,rfl,rfl,rfl⟩
def K9 (es:List Ent) (x:Ent):List Ent:=if Q7 x.id es then es.set (D9 x.id es) x else es.take (D9 x.id es)++x::es.drop (D9 x.id es)
theorem b4k {id:List Nat} {es:List Ent} (h:Q7 id es=true):D9 id es < es.length:=by
 unfold Q7 at h;cases l:es[D9 id es]? with
 | none=>rw[l]at h; cases h
 | some e=>exact(AB.1 l).1
theorem c4P {es:List Ent} (x:Ent):∀ {i:Nat},i < es.length→y8 (m4 es) (i*4) x.row=m4 (es.set i x):=by intro i hi;unfold y8;rw[show x.row.length=4 from rfl,a6z,show i*4+4=(i+1)*4 by omega,a3n,List.set_eq_take_append_cons_drop,if_pos hi,a8v,AX];rfl
theorem c9K {es:List Ent} {v:AV} {st:St} (h:EntsAt v es st) (N:F5 es) (I:es.length≤100000) (x:Ent):EvQ tbl 40 [.agg [v],.agg x.row] st (fun a st'=>∃ O,a=.agg [O]∧EntsAt O (K9 es x) st'∧Gr st st'):=by
 obtain⟨w1,Y,w3,Z,w5,w6,w7⟩:=h.wk;have ex:x.row=[.str x.t,.str x.id,.list false (x.ks.map b9),.list false (x.ls.map Val.row)]:=rfl;rw[ex];refine wj (fn:=a40) rfl rfl rfl ?_;simp only[K40,rS,rE,w1,Y,Z];rcases h with⟨rfl,rfl⟩|⟨o,rfl,M⟩
 · refine wa (b7l st) rfl rfl ?_;rintro _ _ ⟨rfl,rfl⟩;simp only[K40,rE];refine wa (b2O (.inl ⟨rfl,rfl⟩) N I x.id) rfl rfl ?_;rintro _ st ⟨rfl,rfl⟩;simp only[K40,rA,rE,show Q7 x.id []=false from rfl,show D9 x.id []=0 from rfl];have hi:=c01 x st;rw[ex]at hi;refine wa hi rfl rfl ?_;rintro _ _ ⟨rfl,rfl⟩;simp only[K40,rE];exact wc ⟨_,_,rfl,_,rfl,.inr ⟨_,rfl,p9 st _⟩,Gr.app _ _⟩
 · refine wa (b9y M I) rfl rfl ?_;rintro _ _ ⟨rfl,rfl⟩;simp only[K40,rE];refine wa (b2O (.inr ⟨o,rfl,Gr.app st _ _ _ M⟩) N I x.id) rfl rfl ?_;rintro _ _ ⟨rfl,rfl⟩;simp only[K40];refine wi (fun l=>?_) (fun l=>?_)
   · have J:=b4k l;have L:((D9 x.id es:Int) < (es.length:Int))=True:=by simp; omega
     have C:=p9 st (.cells (m4 es));have e:=c4P x J;rw[ex]at e;have u:D9 x.id es*4+4≤(m4 es).length:=by rw[a1O]; omega
     simp only[K40,rA,rE,L,C,u,V4];refine wc ⟨_,_,rfl,_,rfl,.inr ⟨st.length,by rw[K9,if_pos l,Ab]; rfl,by rw[K9,if_pos l,← e]; exact p9 st _⟩,Gr.app _ _⟩
   · have U:=b4B x.id es;have hi:=c4D x (p9 st (.cells (m4 es))) I U;rw[ex]at hi;simp only[K40,rA,rE];refine wa hi rfl rfl ?_;rintro _ _ ⟨rfl,rfl⟩;simp only[K40,rE,V4];have z:(es.take (D9 x.id es)++x::es.drop (D9 x.id es)).length=es.length+1:=by simp; omega
     have T:(st++[Cb.Obj.cells (m4 es)]).length=st.length+1:=by simp
     refine wc ⟨_,_,rfl,_,rfl,.inr ⟨st.length+1,?_,?_⟩,fun i y W=>?_⟩
     · rw[K9,if_neg (by rw[l]; decide),z,T]; rfl
     · rw[K9,if_neg (by rw[l]; decide)];simp
     · exact Gr.app _ _ _ _ (Gr.app st _ _ _ W)
theorem b4v {e:Ent} {id:List Nat} (h:m2 e.id id=true) (es:List Ent):D9 id (e::es)=D9 id es+1∧Q7 id (e::es)=Q7 id es:=by
 have l:D9 id (e::es)=D9 id es+1:=by rw[D9,if_pos h]
 refine⟨l,?_⟩;unfold Q7;rw[l,List.getElem?_cons_succ]
theorem b37 {e:Ent} {id:List Nat} (h:m2 e.id id=false) (es:List Ent):D9 id (e::es)=0∧Q7 id (e::es)=eqN e.id id:=by
 have l:D9 id (e::es)=0:=by rw[D9,h]; rfl
 refine⟨l,?_⟩;unfold Q7;rw[l,List.getElem?_cons_zero]
theorem a1V (e:Ent) (es:List Ent) (x:Ent):K9 (e::es) x=if m2 e.id x.id then e::K9 es x else if eqN e.id x.id then x::es else x::e::es:=by
 unfold K9;rcases e8 (m2 e.id x.id)with h|h
 · obtain⟨l,t⟩:=b4v h es;rw[l,t,if_pos h];split
   · rw[List.set_cons_succ]
   · rw[List.take_succ_cons,List.drop_succ_cons]; rfl
 · obtain⟨l,t⟩:=b37 h es;simp only[l,t,h,Bool.false_eq_true,if_false];rfl
theorem b0j (x:Ent):K9 [] x=[x]:=rfl
theorem a9Y {es:List Ent} {x y:Ent} (h:y∈K9 es x):y=x∨y∈es:=by
 induction es with
 | nil=>rw[b0j]at h; exact .inl (List.mem_singleton.1 h)
 | cons e es l =>
  rw[a1V]at h;split at h
  · rcases List.mem_cons.1 h with h|h
    · exact .inr (h ▸ List.mem_cons_self ..)
    · exact(l h).imp id (List.mem_cons_of_mem _)
  · split at h
    · rcases List.mem_cons.1 h with h|h
      · exact .inl h
      · exact .inr (List.mem_cons_of_mem _ h)
    · exact List.mem_cons.1 h
theorem a4S {a b c:List Nat} (h:eqN a b=true) (e:m2 a c=true):m2 b c=true:=by rw[← (a6d a b).1 h]; exact e
theorem b2d {es:List Ent} (u:F5 es) (x:Ent):F5 (K9 es x):=by
 induction es with
 | nil=>rw[b0j]; exact List.pairwise_singleton _ _
 | cons e es v =>
  rw[a1V];obtain⟨l,t⟩:=List.pairwise_cons.1 u;rcases e8 (m2 e.id x.id)with h|h
  · rw[if_pos h];refine List.pairwise_cons.2 ⟨fun y hy=>?_,v t⟩;rcases a9Y hy with rfl|hy
    · exact h
    · exact l y hy
  · rw[if_neg (by rw[h]; decide)];rcases e8 (eqN e.id x.id)with h3|h3
    · rw[if_pos h3];exact List.pairwise_cons.2 ⟨fun y hy=>a4S h3 (l y hy),t⟩
    · rw[if_neg (by rw[h3]; decide)];have h4:m2 x.id e.id=true:=by
       rcases e8 (m2 x.id e.id)with h4|h4
       · exact h4
       · rw[a7p _ _ h h4,R2]at h3; cases h3
      refine List.pairwise_cons.2 ⟨fun y hy=>?_,u⟩;rcases List.mem_cons.1 hy with rfl|hy
      · exact h4
      · exact a0t _ _ _ h4 (l y hy)
theorem b9d (es:List Ent) (x:Ent):(K9 es x).length≤es.length+1:=by
 unfold K9;split
 · rw[Ab]; omega
 · simp; omega
def ofE (l:List Ent):List Ent:=l.foldl K9 []
theorem a4z (l:List Ent) (x:Ent):ofE (l++[x])=K9 (ofE l) x:=by unfold ofE; rw[List.foldl_append]; rfl
theorem b1a {α:Type} {P:List α→Prop} (e:P []) (t:∀ l x,P l→P (l++[x])) (l:List α):P l:=by
 have:∀ m:List α,P m.reverse:=by
  intro m;induction m with
  | nil=>exact e
  | cons x m u=>rw[List.reverse_cons]; exact t _ _ u
 have:=this l.reverse
 rwa [List.reverse_reverse]at this
theorem b07 (l:List Ent):F5 (ofE l)∧(ofE l).length≤l.length∧∀ y∈ofE l,y∈l:=by
 refine b1a (P:=fun l=>F5 (ofE l)∧(ofE l).length≤l.length∧∀ y∈ofE l,y∈l) ⟨List.Pairwise.nil,AK _,fun y hy=>by cases hy⟩ (fun l x u=>?_) l;obtain⟨e,v,t⟩:=u;rw[a4z];refine⟨b2d e x,by have:=b9d (ofE l) x; rw[AF]; simp; omega,fun y hy=>?_⟩;rcases a9Y hy with rfl|hy
 · exact List.mem_append_right _ (by simp)
 · exact List.mem_append_left _ (t y hy)
theorem a7C {es:List Ent} {i:Nat} (h:i < es.length):(es.map Ent.row)[i]?=some (es[i]).row:=by rw[AU,AE h]; rfl
theorem b9W (l:List Ent) (W:l.length≤100000) (st:St):EvQ tbl 18 [.list false (l.map Ent.row)] st (fun a st'=>∃ v,a=.agg [v]∧EntsAt v (ofE l) st'∧Gr st st'):=by
 refine wj (fn:=a18) rfl rfl rfl ?_;simp only[K18,rS,AG];refine wg (fun O fr st'=>Gr st st'∧∃ (i:Nat) (v v3:AV),i≤l.length∧O=l.length - i∧EntsAt v (ofE (l.take i)) st'∧fr=[.list false (l.map Ent.row),.box [.nils],.box [v],v3,.list false (l.map Ent.row),.int .i64 l.length,.int .i64 i]) (m:=l.length) ⟨Gr.refl st,0,_,_,Aa _,rfl,.inl ⟨rfl,rfl⟩,rfl⟩ ?_;rintro O fr st' ⟨N,i,v,v3,hi,rfl,C,rfl⟩;obtain⟨w1,J,w3,w4,w5,w6,w7⟩:=C.wk;simp only[K18];by_cases e:i < l.length
 · have z:=a7C e;have u:ofE (l.take (i+1))=K9 (ofE (l.take i)) l[i]:=by rw[List.take_add_one,AE e];exact a4z _ _
   obtain⟨T,M,_⟩:=b07 (l.take i);have I:=c9K C T (by rw[AP]at M; omega) l[i];revert z u I;generalize l[i]=x;intro z u I;have ex:x.row=[.str x.t,.str x.id,.list false (x.ks.map b9),.list false (x.ls.map Val.row)]:=rfl;rw[ex]at z I;simp only[K18,rA,rE,e,z,J];refine wa I (by simp only[R.allPlain_c,R.allPlain_n,R.plain_agg]; rfl) (by simp only[AH,AM,R4,J]; rfl) ?_;rintro _ st2 ⟨U,rfl,y,L⟩;obtain⟨Y,Z,u3,u4,u5,u6,u7⟩:=y.wk;simp only[K18,k7 (show i+1 < 2 ^ 63 by omega)];exact wd (m':=l.length - (i+1)) (by omega) ⟨N.trans L,i+1,U,_,e,rfl,u ▸ y,rfl⟩
 · rw[List.take_of_length_le (by omega)]at C;simp only[SS,e];refine we ?_;simp only[K18,J];exact wc ⟨_,_,rfl,v,by simp only[List.take_succ_cons,List.take_zero,AH,AM,J],C,N⟩
def wR (x:Ent):List Ent→Bool→List Ent
 | [],d=>if d then []else [x]
 | e::es,d=>(if !d && !m2 e.id x.id then [x]else [])++((if eqN e.id x.id then []else [e])++wR x es (d || !m2 e.id x.id))
theorem b3L (l:List Ent):l5 4 (l.map Ent.row)=true:=B3 fun r e=>by obtain⟨v,_,rfl⟩:=List.mem_map.1 e;rfl
theorem d4j (a b:List Nat):n4 .geq (.str a) (.str b)=some (.bool !(m2 a b)):=a8 rfl
theorem c0U (x:Ent) (es:List Ent) (O:es.length≤100000) (st:St):EvQ tbl 36 [.list false (es.map Ent.row),.agg x.row] st (fun a st'=>st'=st∧a=.list false ((wR x es false).map Ent.row)):=by
 have ex:x.row=[.str x.t,.str x.id,.list false (x.ks.map b9),.list false (x.ls.map Val.row)]:=rfl;rw[ex];refine wj (fn:=a36) rfl rfl rfl ?_;simp only[K36,rS];refine wg (fun L fr st'=>st'=st∧∃ (i:Nat) (d:Bool) (l:List Ent),i≤es.length∧L=es.length - i∧l.length≤2*i∧wR x es false=l++wR x (es.drop i) d∧fr=[.list false (es.map Ent.row),.agg [.str x.t,.str x.id,.list false (x.ks.map b9),.list false (x.ls.map Val.row)],.box [.str x.t,.str x.id,.list false (x.ks.map b9),.list false (x.ls.map Val.row)],.list true [],.list true (l.map Ent.row),.bool d,.int .i64 i]) (m:=es.length) ⟨rfl,0,false,[],Aa _,rfl,AK _,rfl,rfl⟩ ?_;rintro L fr st' ⟨rfl,i,d,l,hi,rfl,N,v,rfl⟩;have J:=b3L l;have z:=b3L (l++[x]);rw[AW,AH,AM,ex]at z;have I:l.length≤200000:=by omega
 have g1:(l.length+1)*80≤2 ^ 47:=Nat.le_trans (Nat.mul_le_mul_right 80 (show l.length+1≤200001 by omega)) (by decide);have g2:(l.length+1+1)*80≤2 ^ 47:=Nat.le_trans (Nat.mul_le_mul_right 80 (show l.length+1+1≤200002 by omega)) (by decide);have y:=k7 (show i+1 < 2 ^ 63 by omega);simp only[K36,rE,AG];by_cases u:i < es.length
 · have C:=a7C u;rw[List.drop_eq_getElem_cons u,wR]at v;revert C v;generalize es[i]=e;intro v C;have M:e.row=[.str e.t,.str e.id,.list false (e.ks.map b9),.list false (e.ls.map Val.row)]:=rfl;rw[M]at C;cases d<;>rcases e8 (m2 e.id x.id)with h|h<;>rcases e8 (eqN e.id x.id)with h2|h2<;>simp only[h,h2,Bool.not_true,Bool.not_false,Bool.and_false,Bool.and_true,Bool.false_eq_true,if_false,if_true,List.nil_append,Bool.or_true,Bool.or_false]at v<;>simp only[K36,rA,rE,d4j,AG,AF,u,C,h,h2,J,z,g1,g2,y]
   · exact wd (m':=es.length - (i+1)) (by omega) ⟨rfl,i+1,false,l,u,rfl,by omega,v,rfl⟩
   · exact wd (m':=es.length - (i+1)) (by omega) ⟨rfl,i+1,false,l++[e],u,rfl,by simp; omega,by rw[v,AX],by rw[AW]; rfl⟩
   · exact wd (m':=es.length - (i+1)) (by omega) ⟨rfl,i+1,true,l++[x],u,rfl,by simp; omega,by rw[v,AX],by rw[AW]; rfl⟩
   · exact wd (m':=es.length - (i+1)) (by omega) ⟨rfl,i+1,true,l++[x]++[e],u,rfl,by simp; omega,by rw[v,AX,AX],by rw[AW,AW]; rfl⟩
   · exact wd (m':=es.length - (i+1)) (by omega) ⟨rfl,i+1,true,l,u,rfl,by omega,v,rfl⟩
   · exact wd (m':=es.length - (i+1)) (by omega) ⟨rfl,i+1,true,l++[e],u,rfl,by simp; omega,by rw[v,AX],by rw[AW]; rfl⟩
   · exact wd (m':=es.length - (i+1)) (by omega) ⟨rfl,i+1,true,l,u,rfl,by omega,v,rfl⟩
   · exact wd (m':=es.length - (i+1)) (by omega) ⟨rfl,i+1,true,l++[e],u,rfl,by simp; omega,by rw[v,AX],by rw[AW]; rfl⟩
 · rw[List.drop_of_length_le (by omega),wR]at v;simp only[SS,u];refine we ?_;cases d
   · simp only[K36,rA,rE,AG,J,g1];exact wc ⟨_,_,rfl,rfl,by rw[v,if_neg (by decide),AW]; rfl⟩
   · simp only[K36,rE];exact wc ⟨_,_,rfl,rfl,by rw[v,if_pos rfl,List.append_nil]; rfl⟩
theorem b4H (x:Ent):∀ es:List Ent,(∀ y∈es,m2 x.id y.id=true)→wR x es true=es
 | [],_=>rfl
 | e::es,h=>by
  have l:=h e (List.mem_cons_self ..);have t:eqN e.id x.id=false:=by
   rcases e8 (eqN e.id x.id)with h2|h2
   · rw[(a6d _ _).1 h2,a4m]at l; cases l
   · exact h2
  rw[wR,t,Bool.true_or,b4H x es fun y u=>h y (List.mem_cons_of_mem _ u)];rfl
theorem b33 (x:Ent):∀ es:List Ent,F5 es→wR x es false=K9 es x
 | [],_=>rfl
 | e::es,hs=>by
  obtain⟨t,v⟩:=List.pairwise_cons.1 hs;rw[wR,a1V];rcases e8 (m2 e.id x.id)with h|h
  · have z:eqN e.id x.id=false:=by
     rcases e8 (eqN e.id x.id)with h3|h3
     · rw[(a6d _ _).1 h3,a4m]at h; cases h
     · exact h3
    rw[h,z,Bool.not_true,Bool.or_false,b33 x es v];rfl
  · have l:∀ y∈es,m2 x.id y.id=true:=fun y u=>by
     rcases e8 (eqN e.id x.id)with h3|h3
     · exact a4S h3 (t y u)
     · have h4:m2 x.id e.id=true:=by
        rcases e8 (m2 x.id e.id)with h4|h4
        · exact h4
        · rw[a7p _ _ h h4,R2]at h3; cases h3
       exact a0t _ _ _ h4 (t y u)
    rw[h,Bool.not_false,Bool.or_true,b4H x es l];rcases e8 (eqN e.id x.id)with h3|h3
    · rw[h3]; rfl
    · rw[h3]; rfl
theorem c8q (l:List Ent) (J:l.length≤100000) (st:St):EvQ tbl 14 [.list false (l.map Ent.row)] st (fun a st'=>st'=st∧a=.list false ((ofE l).map Ent.row)):=by
 refine wj (fn:=a14) rfl rfl rfl ?_;simp only[K14,rS];refine wg (fun C fr st'=>st'=st∧∃ (i:Nat) (o:Bool),i≤l.length∧C=l.length - i∧fr=[.list false (l.map Ent.row),.list true [],.list o ((ofE (l.take i)).map Ent.row),.int .i64 i]) (m:=l.length) ⟨rfl,0,true,Aa _,rfl,rfl⟩ ?_;rintro C fr st' ⟨rfl,i,o,hi,rfl,rfl⟩;simp only[K14,rE,AG];by_cases e:i < l.length
 · have y:=a7C e;have u:ofE (l.take (i+1))=K9 (ofE (l.take i)) l[i]:=by rw[List.take_add_one,AE e];exact a4z _ _
   obtain⟨I,z,_⟩:=b07 (l.take i);have v:=c0U l[i] (ofE (l.take i)) (by rw[AP]at z; omega) st';rw[b33 _ _ I]at v;revert y u v;generalize l[i]=x;intro y u v;have ex:x.row=[.str x.t,.str x.id,.list false (x.ks.map b9),.list false (x.ls.map Val.row)]:=rfl;rw[ex]at y v;simp only[K14,rA,rE,e,y];refine wa v rfl rfl ?_;rintro _ _ ⟨rfl,rfl⟩;simp only[K14,rE,k7 (show i+1 < 2 ^ 63 by omega)];exact wd (m':=l.length - (i+1)) (by omega) ⟨rfl,i+1,false,e,rfl,by rw[u]⟩
 · rw[List.take_of_length_le (by omega)];simp only[SS,e];refine we ?_;simp only[K14];exact wc ⟨_,_,rfl,rfl,rfl⟩
theorem a4h (n:Int):eqI n n=true:=by rw[eqI_eq]; simp
inductive Val.Fin:Val→Prop
 | mk (k n:Int) (s:List Nat) (ks:List (List Nat)) (ls:List Val) (hk:ks.length < 2 ^ 62) (hl:ls.length < 2 ^ 62) (h:∀ v∈ls,Val.Fin v):Val.Fin (.mk k n s ks ls)
theorem c6U {v:Val} (h:v.Fin):∀ st:St,EvQ tbl 21 [.agg v.row,.agg v.row] st (fun a st'=>st'=st∧a=.bool true):=by
 induction h with
 | mk k n s ks ls M N h C =>
  intro st;rw[Val.row_eq];refine wj (fn:=a21) rfl rfl rfl ?_;simp only[K21,rS,rE,a4h,R2,AG];refine wg (fun y fr st'=>st'=st∧∃ (i:Nat),i≤ks.length∧y=ks.length - i∧fr=[.agg [.int .u8 k,.int .i64 n,.str s,.list false (ks.map b9),.list false (ls.map Val.row)],.agg [.int .u8 k,.int .i64 n,.str s,.list false (ks.map b9),.list false (ls.map Val.row)],.box [.int .u8 k,.int .i64 n,.str s,.list false (ks.map b9),.list false (ls.map Val.row)],.box [.int .u8 k,.int .i64 n,.str s,.list false (ks.map b9),.list false (ls.map Val.row)],.bool false,.int .i64 i,.undef]) (m:=ks.length) ⟨rfl,0,Aa _,rfl,rfl⟩ ?_;rintro y fr st' ⟨rfl,i,hi,rfl,rfl⟩;by_cases l:i < ks.length
  · have e2:=a0A l;simp only[K21,rE,AG,l,e2,R2,k7 (show i+1 < 2 ^ 63 by omega)];exact wd (m':=ks.length - (i+1)) (by omega) ⟨rfl,i+1,l,rfl,rfl⟩
  simp only[K21,rE,AG,l];refine we ?_;simp only[K21];refine wg (fun y fr x=>x=st'∧∃ (j:Nat),j≤ls.length∧y=ls.length - j∧fr=[.agg [.int .u8 k,.int .i64 n,.str s,.list false (ks.map b9),.list false (ls.map Val.row)],.agg [.int .u8 k,.int .i64 n,.str s,.list false (ks.map b9),.list false (ls.map Val.row)],.box [.int .u8 k,.int .i64 n,.str s,.list false (ks.map b9),.list false (ls.map Val.row)],.box [.int .u8 k,.int .i64 n,.str s,.list false (ks.map b9),.list false (ls.map Val.row)],.bool false,.int .i64 i,.int .i64 j]) (m:=ls.length) ⟨rfl,0,Aa _,rfl,rfl⟩ ?_;rintro y fr x ⟨rfl,j,L,rfl,rfl⟩;by_cases e:j < ls.length
  · have e2:=a0U e;have t:=C _ (List.getElem_mem e);revert e2 t;generalize ls[j]=u;intro e2 t;obtain⟨O,T,U,I,J,z⟩:=u.row_cells;rw[z]at e2;simp only[z]at t;simp only[K21,rA,rE,AG,e,e2];refine wa (t _) rfl rfl ?_;rintro _ _ ⟨rfl,rfl⟩;simp only[K21,rE,k7 (show j+1 < 2 ^ 63 by omega)];exact wd (m':=ls.length - (j+1)) (by omega) ⟨rfl,j+1,e,rfl,rfl⟩
  · simp only[K21,rE,AG,e];refine we ?_;simp only[K21];exact wc ⟨_,_,rfl,rfl,rfl⟩
theorem Small.fin {v:Val} (h:Small v):v.Fin:=by
 obtain⟨k,n,s,ls,rfl,_,l,hu⟩:=h;refine .mk _ _ _ _ _ (by decide) (by omega) fun u e=>?_
 obtain⟨k,n,s,rfl,_⟩:=hu u e;exact .mk _ _ _ _ _ (by decide) (by decide) fun u hu=>by cases hu
theorem b60 {es:List Ent} {i:Nat} (h:i < es.length):(4≤(List.drop (i*4) (m4 es)).length)=True∧List.map AV.weak1 (List.take 4 (List.drop (i*4) (m4 es)))=es[i].row:=by
 have e:=a9N h;rw[R.takeVal_t]at e;split at e
 · rename_i l;exact⟨by simpa using l,by simpa using e⟩
 · cases e
def Ent.none:Ent:=⟨[],[],[],[]⟩
def F4 (es:List Ent) (id:List Nat):Option Ent:=if Q7 id es then es[D9 id es]? else .none
theorem a23 {es:List Ent} {id:List Nat} {e:Ent} (h:F4 es id=some e):e∈es∧eqN e.id id=true:=by
 unfold F4 at h;split at h
 · rename_i l;unfold Q7 at l;rw[h]at l;exact⟨List.mem_of_getElem? h,l⟩
 · cases h
theorem b5f {es:List Ent} {v:AV} {st:St} (I:EntsAt v es st) (N:F5 es) (L:es.length≤100000) (id:List Nat):EvQ tbl 29 [.agg [v],.str id] st (fun a st'=>st'=st∧a=.tuple [.agg ((F4 es id).getD Ent.none).row,.bool (F4 es id).isSome]):=by
 have u:=b2O I N L id;have z:=fun h=>b4k (es:=es) (id:=id) h
 rcases I with⟨rfl,rfl⟩|⟨o,rfl,M⟩
 · refine wj (fn:=a29) rfl rfl rfl ?_;simp only[K29,rS,rE];refine wa u rfl rfl ?_;rintro _ _ ⟨rfl,rfl⟩;simp only[K29,rA,rE,show Q7 id []=false from rfl];exact wc ⟨_,_,rfl,rfl,rfl⟩
 · refine wj (fn:=a29) rfl rfl rfl ?_;simp only[K29,rS,rE];refine wa u rfl rfl ?_;rintro _ _ ⟨rfl,rfl⟩;unfold F4;rcases e8 (Q7 id es)with h|h
   · have x:=z h;obtain⟨y,l⟩:=b60 x;have C:((D9 id es:Int) < (es.length:Int))=True:=by simp; omega
     rw[if_pos h,AE x];revert l;generalize es[D9 id es]=e;intro l;have J:e.row=[.str e.t,.str e.id,.list false (e.ks.map b9),.list false (e.ls.map Val.row)]:=rfl;rw[J]at l;simp only[K29,rA,rE,h,C,M,y,l];exact wc ⟨_,_,rfl,rfl,rfl⟩
   · rw[h,if_neg (by decide)];simp only[K29,rA,rE];exact wc ⟨_,_,rfl,rfl,rfl⟩
def TRef.nm:TRef→List Nat
 | .base n _=>n
 | .wrap _ _=>[]
def TRef.of:TRef→List (List AV)
 | .base _ _=>[]
 | .wrap t _=>[t.row]
def TRef.bang:TRef→Bool
 | .base _ b=>b
 | .wrap _ b=>b
def TRef.bs:TRef→List Nat
 | .base n _=>n
 | .wrap t _=>t.bs
theorem TRef.row_eta (t:TRef):t.row=[.str t.nm,.list false t.of,.bool t.bang]:=by cases t<;>rfl
def Val.names:Val→List (List Nat)|.mk _ _ _ ks _=>ks
def Val.vals:Val→List Val|.mk _ _ _ _ ls=>ls
theorem Val.row_eta (v:Val):v.row=[.int .u8 v.kind,.int .i64 v.num,.str v.text,.list false (v.names.map b9),.list false (v.vals.map Val.row)]:=by cases v; exact Val.row_eq _ _ _ _ _
structure FDef where
 n:List Nat
 ar:List (List AV)
 t:TRef
 has:Bool
 v:Val
def FDef.row (f:FDef):List AV:=[.str f.n,.list false f.ar,.str f.t.nm,.list false f.t.of,.bool f.t.bang,.bool f.has,.int .u8 f.v.kind,.int .i64 f.v.num,.str f.v.text,.list false (f.v.names.map b9),.list false (f.v.vals.map Val.row)]
def FDef.none:FDef:=⟨[],[],.base [] false,false,Val.none⟩
def E8 (ks:List (List Nat)) (ls:List Val):Cb.Obj:=.cells [.int .u8 6,.int .i64 0,.str [],.list true (ks.map b9),.list true (ls.map Val.row)]
def Sel.nm:Sel→List Nat|.mk _ _ nm _ _ _ _=>nm
def Sel.as:Sel→List Arg|.mk _ _ _ _ as _ _=>as
def Sel.sub:Sel→List Sel|.mk _ _ _ _ _ _ sub=>sub
structure RS where
 ps:List (List (List Nat)×Int)
 part:Bool
 steps:Nat
def RS.prob (s:RS) (p:List (List Nat)) (e:Int):RS:=⟨s.ps++[(p,e)],s.part,s.steps⟩
def RS.step (s:RS):RS:=⟨s.ps,s.part,if s.steps≤5000 then s.steps+1 else s.steps⟩
structure REnv where
 so:Nat
 ops:List (List AV)
 frs:List (List AV)
 es:List Ent
 v:AV
 whole:Bool
 tv:AV
 vk:Int
 vn:Int
 vs:List Nat
 vks:List (List AV)
 vls:List (List AV)
 fld:List Nat→List Nat→Option FDef
 grp:List Nat→List Sel→List (List Nat×List Sel)
 poss:List Nat→List (List Nat)
 leaf:List Nat→Bool
 fits:List Nat→Val→Bool
 knows:List Nat→Bool
 args:FDef→List Arg→Val×Int
def REnv.know (E:REnv) (s:RS) (n:List Nat):RS:=if E.knows n then s else⟨s.ps,true,s.steps⟩
def REnv.vars (E:REnv):List AV:=[.int .u8 E.vk,.int .i64 E.vn,.str E.vs,.list false E.vks,.list false E.vls]
def VX (v:Val):Prop:=∃ k n s ls,v=.mk k n s [] ls∧k≠6∧ls.length≤100000∧∀ u∈ls,∃ k n s,u=.mk k n s [] []∧k≠6
theorem VX.one {k n:Int} {s:List Nat} (h:k≠6):VX (.mk k n s [] []):=⟨k,n,s,[],rfl,h,by decide,by simp⟩
theorem VX.none:VX Val.none:=VX.one (by decide)
theorem Small.vx {v:Val} (h:Small v):VX v:=let ⟨k,n,s,ls,h1,h2,h3,h4⟩:=h; ⟨k,n,s,ls,h1,h2.1.1,by omega,fun u hu=>let ⟨k,n,s,e,hk⟩:=h4 u hu; ⟨k,n,s,e,hk.1⟩⟩
theorem VX.sub {k n:Int} {s:List Nat} {ks:List (List Nat)} {ls:List Val} (h:VX (.mk k n s ks ls)):∀ u∈ls,VX u:=fun u hu=>by obtain⟨x,y,s',v,e,_,_,l⟩:=h;cases e;obtain⟨k,n,s,rfl,t⟩:=l u hu;exact VX.one t
def H5 (ps:List (List (List Nat)×Int)):List AV:=ps.flatMap fun p=>[.list false (p.1.map b9),.int .i64 p.2]
theorem b4U (ps:List (List (List Nat)×Int)):(H5 ps).length=ps.length*2:=by
 induction ps with
 | nil=>rfl
 | cons p ps e=>rw[show H5 (p::ps)=[.list false (p.1.map b9),.int .i64 p.2]++H5 ps from rfl,AF,e,AY]; simp; omega
theorem b5n (a b:List (List (List Nat)×Int)):H5 (a++b)=H5 a++H5 b:=by simp[H5]
def H9 (E:REnv) (s:RS) (pv:AV):List AV:=[.ptr E.so 0,.list false E.ops,.list false E.frs,E.v,.bool E.whole,E.tv,.int .u8 E.vk,.int .i64 E.vn,.str E.vs,.list false E.vks,.list false E.vls,pv,.bool s.part,.int .i64 s.steps]
def PAt (b:Nat) (pv:AV) (ps:List (List (List Nat)×Int)) (st:St):Prop:=(pv=.nils∧ps=[])∨∃ o,b < o∧pv=.sl o 0 ps.length 2∧st[o]?=some (.cells (H5 ps))
structure RunAt (E:REnv) (B:St) (s:RS) (pv:AV) (st:St):Prop where
 ob:st[B.length]?=some (.cells (H9 E s pv))
 pr:PAt B.length pv s.ps st
 gr:Gr B st
 le:s.steps≤5001
 pl:∀ x∈s.ps,x.1.length≤100000
structure RK (B:St) (pv:AV) (st:St) (pv':AV) (st':St):Prop where
 keep:∀ i x,i≠B.length→u9 pv≠some i→st[i]?=some x→st'[i]?=some x
 len:st.length≤st'.length
 pv:pv'=pv∨∀ o,u9 pv'=some o→st.length≤o
theorem RK.refl (B:St) (pv:AV) (st:St):RK B pv st pv st:=⟨fun _ _ _ _ h=>h,AK _,.inl rfl⟩
theorem RK.trans {B:St} {pv t u:AV} {st st1 st2:St} (h:RK B pv st t st1) (v:RK B t st1 u st2):RK B pv st u st2:=by
 refine⟨fun i x hi y z=>v.keep i x hi (fun l=>?_) (h.keep i x hi y z),Nat.le_trans h.len v.len,?_⟩
 · rcases h.pv with e|e
   · rw[e]at l; exact y l
   · have:=e i l;have:=(AB.1 z).1;omega
 · rcases v.pv with e|e
   · rw[e]; exact h.pv
   · exact .inr fun o C=>Nat.le_trans h.len (e o C)
theorem RK.of_gr {B:St} {pv:AV} {st st':St} (h:Gr st st') (e:st.length≤st'.length):RK B pv st pv st':=⟨fun i x _ _ l=>h i x l,e,.inl rfl⟩
theorem PAt.wk {b:Nat} {pv:AV} {ps:List (List (List Nat)×Int)} {st:St} (h:PAt b pv ps st):pv.weak=pv∧pv.weak1=pv∧pv.strip=pv∧pv.stripB=pv∧pv.plain=true∧pv.cells=[pv]∧pv.cellsW=[pv]:=by rcases h with⟨rfl,_⟩|⟨o,_,rfl,_⟩<;>exact⟨rfl,rfl,rfl,rfl,rfl,rfl,rfl⟩
theorem PAt.root {b:Nat} {pv:AV} {ps:List (List (List Nat)×Int)} {st:St} (h:PAt b pv ps st):∀ o,u9 pv=some o→b < o∧o < st.length:=fun o e=>by
 rcases h with⟨rfl,_⟩|⟨p,l,rfl,t⟩
 · cases e
 · cases e; exact⟨l,(AB.1 t).1⟩
theorem RunAt.grow {E:REnv} {B:St} {s:RS} {pv:AV} {st st':St} (h:RunAt E B s pv st) (e:Gr st st'):RunAt E B s pv st' :=
 ⟨e _ _ h.ob,by rcases h.pr with v|⟨o,l,t,u⟩; exact .inl v; exact .inr ⟨o,l,t,e _ _ u⟩,h.gr.trans e,h.le,h.pl⟩
theorem RunAt.put {E:REnv} {B:St} {s s':RS} {pv:AV} {st:St} (h:RunAt E B s pv st) (l:s'.ps=s.ps) (u:s'.steps≤5001):RunAt E B s' pv (st.set B.length (.cells (H9 E s' pv)))∧RK B pv st pv (st.set B.length (.cells (H9 E s' pv))):=by
 have t:∀ i x,i≠B.length→st[i]?=some x→(st.set B.length (.cells (H9 E s' pv)))[i]?=some x:=fun i x hi e=>by rw[List.getElem?_set_ne (by omega)]; exact e
 refine⟨⟨List.getElem?_set_self (AB.1 h.ob).1,?_,fun i x e=>?_,u,by rw[l]; exact h.pl⟩,fun i x hi _ e=>t i x hi e,by simp,.inl rfl⟩
 · rw[l];rcases h.pr with C|⟨o,v,y,z⟩
   · exact .inl C
   · exact .inr ⟨o,v,y,t o _ (by omega) z⟩
 · exact t i x (by have:=(AB.1 e).1; omega) (h.gr i x e)
theorem d3Q (a:Int) (b:Int):(!ltI b a)=decide (a≤b):=by
 rw[ltI_eq];by_cases h:a≤b
 · rw[decide_eq_true h,decide_eq_false (by omega)]; rfl
 · rw[decide_eq_false h,decide_eq_true (by omega)]; rfl
theorem b9f {E:REnv} {B:St} {s:RS} {pv:AV} {st:St} (h:RunAt E B s pv st):EvQ tbl 85 [.ptr B.length 0] st (fun a st'=>a=.bool (decide (s.step.steps≤5000))∧RunAt E B s.step pv st'∧RK B pv st pv st'):=by
 have l:=h.ob;have J:=h.le;obtain⟨w1,L,M,N,O,T,U⟩:=h.pr.wk;unfold H9 at l;refine wj (fn:=a85) rfl rfl rfl ?_;simp only[K85,rS,rE,l];by_cases x:s.steps≤5000
 · have c:ltI 5000 (s.steps:Int)=false:=by rw[ltI_eq]; simp; omega
   obtain⟨z,C⟩:=h.put (s':=s.step) rfl (by unfold RS.step; dsimp only; rw[if_pos x]; omega);have e:H9 E s.step pv=[.ptr E.so 0,.list false E.ops,.list false E.frs,E.v,.bool E.whole,E.tv,.int .u8 E.vk,.int .i64 E.vn,.str E.vs,.list false E.vks,.list false E.vls,pv,.bool s.part,.int .i64 ((s.steps+1:Nat):Int)]:=by unfold H9 RS.step; dsimp only; rw[if_pos x]
   have t:s.step.steps=s.steps+1:=by unfold RS.step; dsimp only; rw[if_pos x]
   rw[t];rw[e]at z C;have u:∀ y:Cb.Obj,(st.set B.length y)[B.length]?=some y:=fun y=>List.getElem?_set_self (AB.1 l).1
   have I:(!ltI 5000 ((s.steps+1:Nat):Int))=decide (s.steps+1≤5000):=by rw[d3Q]; apply decide_eq_decide.2; omega
   simp only[K85,rA,rL,rE,c,l,u,k7 (show s.steps+1 < 2 ^ 63 by omega),I];refine wc ⟨_,_,rfl,?_,z,C⟩;rfl
 · have t:s.step=s:=by unfold RS.step; rw[if_neg x]
   have c:ltI 5000 (s.steps:Int)=true:=by rw[ltI_eq]; simp; omega
   rw[t];simp only[K85,rE,c,l];refine wc ⟨_,_,rfl,?_,h,RK.refl _ _ _⟩;rw[decide_eq_false x];rfl
theorem a7g (l:List (List Nat)) (e:l.length≤100000000) (st:St):EvQ tbl 86 [.list false (l.map b9)] st (fun a st'=>st'=st∧a=.list true (l.map b9)):=by refine EvQ.of_ext (fn:=a86) (r:=(.list true (l.map b9),st)) rfl rfl ?_ ⟨rfl,rfl⟩;simp only[a1B,X1,AG,Bool.true_and];rw[if_pos (by simp; omega)]
theorem c1y (n:Nat):(n.beq n=true)=True:=by simp
theorem c1z {st:St} {o:Nat} {x:Cb.Obj} (h:st[o]?=some x):kept st st [.ptr o 0]=true:=by simp only[kept,u9,h,Bool.and_true];exact(a0k _ _).2 rfl
theorem RunAt.newp {E:REnv} {B:St} {s:RS} {pv:AV} {st:St} (h:RunAt E B s pv st) {st1:St} (J:∀ i x,i≠B.length→u9 pv≠some i→st[i]?=some x→st1[i]?=some x) (M:st1.length=st.length+1) {e:List (List (List Nat)×Int)} (u:st1[st.length]?=some (.cells (H5 e))) {n:Nat} (C:n=e.length) (z:∀ x∈e,x.1.length≤100000) :
 RunAt E B ⟨e,s.part,s.steps⟩ (.sl st.length 0 n 2) (st1.set B.length (.cells (H9 E ⟨e,s.part,s.steps⟩ (.sl st.length 0 n 2))))∧RK B pv st (.sl st.length 0 n 2) (st1.set B.length (.cells (H9 E ⟨e,s.part,s.steps⟩ (.sl st.length 0 n 2)))):=by
 subst C;have v:B.length < st.length:=(AB.1 h.ob).1;have l:∀ (y:Cb.Obj) i x,i≠B.length→st1[i]?=some x→(st1.set B.length y)[i]?=some x:=fun y i x hi t=>by rw[List.getElem?_set_ne (by omega)]; exact t
 refine⟨⟨List.getElem?_set_self (by omega),.inr ⟨st.length,v,rfl,l _ _ _ (by omega) u⟩,fun i x t=>?_,h.le,z⟩,fun i x hi I t=>l _ i x hi (J i x hi I t),by rw[Ab]; omega,.inr fun o L=>by cases L; exact AK _⟩;have hi:i < B.length:=(AB.1 t).1;exact l _ i x (by omega) (J i x (by omega) (fun I=>by have:=(h.pr.root i I).1; omega) (h.gr i x t))
theorem a26 {E:REnv} {B:St} {s:RS} {pv:AV} {st:St} (h:RunAt E B s pv st) {path:List (List Nat)} (N:path≠[]) (v:path.length≤100000) (W:s.ps.length≤100000) (e:Int) :
 EvQ tbl 136 [.ptr B.length 0,.list false (path.map b9),.int .i64 e] st (fun a st'=>∃ u,RunAt E B (s.prob path e) u st'∧RK B pv st u st'):=by
 have t:=h.ob;obtain⟨w1,T,Z,U,w5,w6,w7⟩:=h.pr.wk;have M:B.length < st.length:=(AB.1 t).1;unfold H9 at t;have L:(path.map b9).isEmpty=false:=by cases path with|nil=>exact absurd rfl N|cons x xs=>rfl
 refine wj (fn:=a136) rfl rfl rfl ?_;simp only[d4q,rA,rS,rL,rE,t,a2g,c1y,w1,T,U];refine wm (a7g path (by omega) st) rfl rfl ?_;rintro _ st ⟨rfl,rfl⟩;refine⟨c1z t,?_⟩;have z:1*32≤2 ^ 47:=by decide
 have g12:∀ u,12≤(H9 E s u).length:=fun u=>by simp[H9]
 rcases h.pr with⟨rfl,I⟩|⟨o,Y,rfl,hx⟩
 · have l:=fun y=>m3 (y:=y) t
   obtain⟨f1,f2⟩:=h.newp (st1:=st++[.cells (H5 [(path,e)])]) (fun i x _ _ hx=>m3 hx) (by simp) (p9 _ _) (n:=1) rfl (fun x hx=>by simp at hx; rw[hx]; exact v);simp only[SS,rA,rL,z,l];exact wc ⟨_,_,rfl,.sl st.length 0 1 2,by rw[RS.prob,I]; exact f1,f2⟩
 · have l:∀ y:Cb.Obj,(st.set o .dead++[y])[B.length]?=some (.cells (H9 E s (.sl o 0 s.ps.length 2))):=fun y=>m3 (by rw[List.getElem?_set_ne (by omega)]; exact t)
   have J:(H5 s.ps).length=s.ps.length*2:=b4U _;have C:(s.ps.length+1)*32≤2 ^ 47:=by omega
   obtain⟨f1,f2⟩:=h.newp (st1:=st.set o .dead++[.cells (H5 (s.ps++[(path,e)]))]) (fun i x _ O hx=>m3 (by rw[List.getElem?_set_ne (fun h=>O (by rw[h]; rfl))]; exact hx)) (by simp) (by have:=p9 (st.set o .dead) (.cells (H5 (s.ps++[(path,e)]))); rw[Ab]at this; exact this) (n:=s.ps.length+1) (by simp) (fun x hx=>by
    rcases AQ.1 hx with hx|hx
    · exact h.pl x hx
    · simp at hx; rw[hx]; exact v)
   unfold H9 at l;rw[b5n]at f1 f2;simp only[SS,rA,rL,hx,J,C,l];exact wc ⟨_,_,rfl,.sl st.length 0 (s.ps.length+1) 2,f1,f2⟩
theorem Gr.len {st st':St} (h:Gr st st'):st.length≤st'.length:=by
 rcases Nat.lt_or_ge st'.length st.length with e|hge
 · have:=h st'.length _ (AE e);rw[List.getElem?_eq_none (AK _)]at this;cases this
 · exact hge
theorem a1R (a b:List Sel):sizes (a++b)=sizes a+sizes b:=by
 induction a with
 | nil=>simp[sizes]
 | cons x a e=>rw[List.cons_append,m0,m0,e]; omega
theorem a2Z:∀ l:List Sel,l.length≤sizes l
 | []=>Aa _
 | x::l=>by have:=a2Z l;cases x;rw[m0,I1,AY]; omega
def B8 (fs:List Sel):List Sel:=fs.flatMap Sel.sub
theorem a4H:∀ fs:List Sel,sizes (B8 fs)≤sizes fs
 | []=>AK _
 | x::l=>by have:=a4H l;cases x;rw[m0,I1,show ∀ k al nm on as ds sub,B8 (Sel.mk k al nm on as ds sub::l)=sub++B8 l from fun _ _ _ _ _ _ _=>rfl,a1R]; omega
theorem b5S (l:List Sel) (i:Nat):sizes (l.take i)≤sizes l:=by have:=a1R (l.take i) (l.drop i);rw[List.take_append_drop]at this;omega
theorem a8A {s:Sel} (h:s.OK):∀ u∈s.sub,u.OK:=by cases h;assumption
theorem c4b {fs:List Sel} (h:∀ s∈fs,s.OK):∀ s∈B8 fs,s.OK:=fun s e=>by obtain⟨f,l,e⟩:=List.mem_flatMap.1 e;exact a8A (h f l) s e
theorem b2R (es:List Sel):∀ i,(s4 es).drop (i*7)=s4 (es.drop i):=by
 induction es with
 | nil=>intro i; simp[s4]
 | cons e es l =>
  intro i;cases i with
  | zero=>rw[Nat.zero_mul,List.drop_zero,List.drop_zero]
  | succ i =>
   rw[List.drop_succ_cons,← l i,show(i+1)*7=7+i*7 by omega,← List.drop_drop,show s4 (e::es)=e.row++s4 es from rfl];have:(e.row++s4 es).drop 7=s4 es:=by have t:=Sel.row_len e;rw[List.drop_append_of_le_length (by omega),List.drop_of_length_le (by omega)];rfl
   rw[this]
theorem d3f (s:Sel):s.row.map AV.weak1=s.row:=by cases s;rw[Sel.row_eq];rfl
theorem b8y {es:List Sel} {i:Nat} (h:i < es.length):(7≤(List.drop (i*7) (s4 es)).length)=True∧List.map AV.weak1 (List.take 7 (List.drop (i*7) (s4 es)))=es[i].row:=by rw[b2R,List.drop_eq_getElem_cons h];have l:=Sel.row_len es[i];have e:s4 (es[i]::es.drop (i+1))=es[i].row++s4 (es.drop (i+1)):=rfl;rw[e];refine⟨by simp; omega,?_⟩;rw[List.take_append_of_le_length (by omega),List.take_of_length_le (by omega),d3f]
theorem d2Y {fs:List Sel} (I:∀ s∈fs,s.OK) (J:sizes fs≤90000000) {fo:Nat} {st:St} (h:st[fo]?=some (.cells (s4 fs))) (key:List Nat) :
 EvQ tbl 194 [.agg [.str key,.sl fo 0 fs.length 7]] st (fun a st'=>st'=st∧a=.list false ((B8 fs).map Sel.row)):=by
 have C:=a2Z fs;refine wj (fn:=a194) rfl rfl rfl ?_;simp only[b6S,rS];refine wg (fun z fr st'=>st'=st∧∃ (i:Nat) (v4:AV),i≤fs.length∧z=fs.length - i∧fr=[.agg [.str key,.sl fo 0 fs.length 7],.box [.str key,.sl fo 0 fs.length 7],.list true [],.list true ((B8 (fs.take i)).map Sel.row),v4,.sl fo 0 fs.length 7,.int .i64 fs.length,.int .i64 i]) (m:=fs.length) ⟨rfl,0,_,Aa _,rfl,rfl⟩ ?_;rintro z fr st' ⟨rfl,i,v4,hi,rfl,rfl⟩;simp only[b6S];by_cases e:i < fs.length
 · obtain⟨u,l⟩:=b8y e;have v:((i:Int) < (fs.length:Int))=True:=by simp; omega
   have t:B8 (fs.take (i+1))=B8 (fs.take i)++fs[i].sub:=by rw[List.take_add_one,AE e,B8,List.flatMap_append];simp[B8]
   have g1:((B8 (fs.take i)).length+fs[i].sub.length)*128≤2 ^ 47:=by have a1:=a2Z (B8 (fs.take (i+1)));have a2:=a4H (fs.take (i+1));have a3:=b5S fs (i+1);rw[t,AF]at a1;rw[t]at a2;exact Nat.le_trans (Nat.mul_le_mul_right 128 (show _≤90000000 by omega)) (by decide)
   have x:l5 7 ((B8 (fs.take i)).map Sel.row)=true:=a9h _;revert l t g1;generalize fs[i]=s;obtain⟨k,al,nm,on,as,ds,sub⟩:=s;intro l t g1;have y:l5 7 (sub.map Sel.row)=true:=a9h _;have g1:((B8 (fs.take i)).length+sub.length)*128≤2 ^ 47:=g1;rw[Sel.row_eq]at l;simp only[b6S,rA,rE,e,v,h,u,l,x,y,AG,g1,k7 (show i+1 < 2 ^ 63 by omega)];exact wd (m':=fs.length - (i+1)) (by omega) ⟨rfl,i+1,_,e,rfl,by rw[t,AW]; rfl⟩
 · rw[List.take_of_length_le (by omega)];simp only[SS,e];refine we ?_;simp only[b6S];exact wc ⟨_,_,rfl,rfl,rfl⟩
def atK (k:Int) (ks:List (List Nat)) (ls:List Val) (n:List Nat):Val:=(if eqI k 6 then(match pI (fun x=>eqN n x) ks with|some i=>ls[i]?|none=>none)else none).getD Val.none
theorem b7G {k m:Int} {s:List Nat} {ks:List (List Nat)} {ls:List Val} (l:ks.length≤100000000) (e:k=6→ks.length=ls.length) (n:List Nat) (st:St) :
 EvQ tbl 79 [.agg [.int .u8 k,.int .i64 m,.str s,.list false (ks.map b9),.list false (ls.map Val.row)],.str n] st (fun a st'=>st'=st∧∃ b,a=.tuple [.agg (atK k ks ls n).row,.bool b]) :=
 c2H (K:=⟨0,[],[],[],k,m,s,ks,ls,fun _=>[]⟩) ⟨l,e,by simp,by simp⟩ n st
def TRef.depth:TRef→Nat
 | .base _ _=>0
 | .wrap t _=>t.depth+1
theorem c9p (t:TRef) (st:St):EvQ tbl 134 [.agg t.row] st (fun a st'=>st'=st∧a=.str t.bs):=by
 rw[t.row_eta];refine wj (fn:=a134) rfl rfl rfl ?_;simp only[b5i,rS];refine wg (fun l fr st'=>st'=st∧∃ (u:TRef),l=u.depth∧u.bs=t.bs∧fr=[.agg [.str t.nm,.list false t.of,.bool t.bang],.box [.str u.nm,.list false u.of,.bool u.bang],.str []]) (m:=t.depth) ⟨rfl,t,rfl,rfl,rfl⟩ ?_;rintro l fr st' ⟨rfl,u,rfl,e,rfl⟩;cases u with
 | base n b =>simp only[b5i,rE,TRef.nm,TRef.of,TRef.bang,show ltI 0 ((0:Nat):Int)=false from rfl];refine we ?_;simp only[b5i,rE];exact wc ⟨_,_,rfl,rfl,by rw[← e]; rfl⟩
 | wrap u b =>simp only[b5i,rA,rE,TRef.nm,TRef.of,TRef.bang,u.row_eta,show ltI 0 (((0+1:Nat)):Int)=true from rfl];exact wd (m':=u.depth) (by rw[TRef.depth]; omega) ⟨rfl,u,rfl,e,rfl⟩
theorem c6R (i:Nat) (hi:i≤1000000) (st:St):EvQ tbl 191 [.int .i64 (i:Int)] st (fun a st'=>st'=st∧a=.str (L0 (i:Int))):=by
 have l:EvQ tbl 201 [.int .i64 (i:Int),.int .i64 10] st (fun a st'=>st'=st∧a=.str (L0 (i:Int))) :=
  EvQ.of_ext (fn:=a201) rfl rfl (by unfold a8F; exact if_pos ⟨by omega,by omega⟩) ⟨rfl,rfl⟩
 have e:EvQ tbl 203 [.int .i64 (i:Int)] st (fun a st'=>st'=st∧a=.str (L0 (i:Int))):=by refine wj (fn:=a203) rfl rfl rfl ?_;simp only[d4L,rS,rE];refine wa l rfl rfl ?_;rintro _ _ ⟨rfl,rfl⟩;simp only[SS];exact wc ⟨_,_,rfl,rfl,rfl⟩
 refine wj (fn:=a191) rfl rfl rfl ?_;simp only[d3y,rS,rE];refine wa e rfl rfl ?_;rintro _ _ ⟨rfl,rfl⟩;simp only[SS];exact wc ⟨_,_,rfl,rfl,rfl⟩
abbrev VF:=TRef→Val→List Sel→List (List Nat)→RS→Val×RS
abbrev a9B:=(Val×Bool)×RS
def H3 (V:VF) (t:TRef) (v:Val) (fs:List Sel) (path:List (List Nat)) (s:RS):a9B:=match V t v fs path s with
 | (out,e)=>if eqI out.kind 0 && t.bang then((Val.none,false),if e.ps.length=s.ps.length then e.prob path 9 else e)else((out,true),e)
def M5 (V:VF) (t:TRef) (fs:List Sel) (path:List (List Nat)):List Val→Nat→List Val→RS→Val×RS
 | [],_,acc,s=>(.mk 5 0 [] [] acc,s)
 | x::xs,i,acc,s=>if s.step.steps≤5000 then(match H3 V t x fs (path++[L0 (i:Int)]) s.step with|((y,ok),e)=>if ok then M5 V t fs path xs (i+1) (acc++[y]) e else(Val.none,e))else(Val.none,s.step)
def W3 (n:List Nat):Val:=.mk 8 0 n [] []
def Q4:List Nat:=[95,95,116,121,112,101,110,97,109,101]
def H4:List Nat:=[81,117,101,114,121]
def idN:List Nat:=[105,100]
def a3B:List Sel→List Arg
 | []=>[]
 | x::_=>x.as
def a3L:List Sel→List Nat
 | []=>[]
 | x::_=>x.nm
def M3 (E:REnv) (V:VF) (typ:List Nat) (x:Ent) (f:FDef) (fs:List Sel) (path:List (List Nat)) (s:RS):a9B :=
 if eqN f.n Q4 then((.mk 2 0 typ [] [],true),s)
 else if !eqN typ H4 then H3 V f.t (atK 6 x.ks x.ls f.n) fs path s
 else if f.ar.isEmpty then H3 V f.t (.mk 5 0 [] [] ((E.es.filter fun y=>k9 (E.poss f.t.bs) y.t).map fun y=>W3 y.id)) fs path (E.know s f.t.bs)
 else match E.args f (a3B fs)with
  | (a,e)=>if eqI e 0 then H3 V f.t (W3 (atK a.kind a.names a.vals idN).text) fs path (E.know s f.t.bs)else((Val.none,true),(E.know s f.t.bs).prob path e)
def I2 (E:REnv) (V:VF) (typ:List Nat) (x:Ent) (path:List (List Nat)):List (List Nat×List Sel)→List (List Nat)→List Val→RS→a9B
 | [],ks,ls,s=>((.mk 6 0 [] ks ls,true),s)
 | (key,fs)::gs,ks,ls,s=>match E.fld typ (a3L fs)with
  | none=>I2 E V typ x path gs ks ls s
  | some f=>if s.step.steps≤5000 then(match M3 E V typ x f fs (path++[key]) s.step with|((v,ok),e)=>if ok then I2 E V typ x path gs (ks++[key]) (ls++[v]) e else((Val.none,false),e))else((Val.none,false),s.step)
def a4w (E:REnv) (n:List Nat) (v:Val):Bool:=if eqN n [73,68]then eqI v.kind 2 else E.fits n v
def valF (E:REnv):Nat→VF
 | 0,_,_,_,_,s=>(Val.none,s)
 | n+1,t,v,fs,path,s=>if eqI v.kind 0 then(v,s)else match t with
  | .wrap u _=>if eqI v.kind 5 then M5 (valF E n) u fs path v.vals 0 [] s else(Val.none,s.prob path 8)
  | .base nm _=>if E.leaf nm then(if a4w E nm v then(v,s)else(Val.none,s.prob path 8))
   else if eqI v.kind 8 then(match F4 E.es v.text with
    | none=>(Val.none,E.know s nm)
    | some x=>if k9 (E.poss nm) x.t then(match I2 E (valF E n) x.t x path (E.grp x.t (B8 fs)) [] [] (E.know s nm)with|((v,_),e)=>(v,e))else(Val.none,E.know s nm))
   else(Val.none,s.prob path 8)
inductive Val.Rng:Val→Prop
 | mk (k n:Int) (s:List Nat) (ks:List (List Nat)) (ls:List Val) (hn:-9223372036854775808≤n∧n≤9223372036854775807) (h:∀ v∈ls,Val.Rng v):Val.Rng (.mk k n s ks ls)
inductive Sel.Rg:Sel→Prop
 | mk (k:Int) (al nm on:List Nat) (as:List Arg) (ds:List Dir) (sub:List Sel) (ha:∀ a∈as,a.v.Rng) (h:∀ s∈sub,Sel.Rg s):Sel.Rg (.mk k al nm on as ds sub)
theorem c4z {fs:List Sel} (h:∀ s∈fs,s.Rg):∀ s∈B8 fs,s.Rg:=fun s e=>by obtain⟨f,t,e⟩:=List.mem_flatMap.1 e;have:=h f t;cases this;rename_i l;exact l s e
structure SelX (N:Nat) (l:List Sel):Prop where
 ok:∀ s∈l,s.OK
 rg:∀ s∈l,s.Rg
 sz:sizes l≤N
def a3o (x:Ent):Prop:=x.ks.length=x.ls.length∧x.ks.length≤6∧∀ v∈x.ls,VX v
structure REnv.OK (E:REnv) (B:St):Prop where
 ents:EntsAt E.v E.es B
 sorted:F5 E.es
 esl:E.es.length≤1000
 good:∀ e∈E.es,a3o e
 tvw:E.tv.weak1=E.tv∧E.tv.plain=true∧E.tv.weak=E.tv
 fld:∀ st,Gr B st→∀ typ n,EvQ tbl 84 [.ptr E.so 0,.str typ,.str n] st (fun a st'=>st'=st∧a=.tuple [.agg ((E.fld typ n).getD FDef.none).row,.bool (E.fld typ n).isSome])
 grp:∀ st,Gr B st→∀ typ l,SelX 11000000 l→EvQ tbl 83 [.ptr E.so 0,.agg [.list false E.ops,.list false E.frs],.str typ,.list false (l.map Sel.row),.agg E.vars] st (fun a st'=>Gr st st'∧∃ out gs,a=out.weak∧GrpS st.length st' out gs∧gs.map Grp.pr=E.grp typ l)
 grpx:∀ typ l N,SelX N l→∀ g∈E.grp typ l,g.2≠[]∧SelX (N+2001) g.2
 grpl:∀ typ l,SelX 11000000 l→(E.grp typ l).length≤90000000
 poss:∀ st,Gr B st→∀ n,EvQ tbl 42 [.ptr E.so 0,.str n] st (fun a st'=>st'=st∧a=.list false ((E.poss n).map b9))
 possl:∀ n,(E.poss n).length≤100000000
 leaf:∀ st,Gr B st→∀ n,EvQ tbl 192 [.ptr E.so 0,.str n] st (fun a st'=>st'=st∧a=.bool (E.leaf n))
 fits:∀ st,Gr B st→∀ n v,VX v→EvQ tbl 146 [.ptr E.so 0,.agg [.str n,.list false [],.bool false],.agg v.row] st (fun a st'=>Gr st st'∧a=.bool (E.fits n v))
 knows:∀ st,Gr B st→∀ n,EvQ tbl 19 [.agg [E.v,.bool E.whole,E.tv],.ptr E.so 0,.str n] st (fun a st'=>Gr st st'∧a=.bool (E.knows n))
 args:∀ st,Gr B st→∀ n f,E.fld H4 n=some f→f.ar.isEmpty=false→∀ as,ArgsOK as→(∀ a∈as,a.v.Rng)→EvQ tbl 135 [.ptr E.so 0,.agg f.row,.list false (as.map Arg.row),.agg E.vars] st (fun a st'=>Gr st st'∧∃ s,a=.tuple [.agg (E.args f as).1.row,.str s,.int .i64 (E.args f as).2])
 argsx:∀ f as,(E.args f as).1.names.length≤100000000∧((E.args f as).1.kind=6→(E.args f as).1.names.length=(E.args f as).1.vals.length)
structure Goes (E:REnv) (B:St) (s:RS) (pv:AV) (st:St) (s2:RS) (st':St) (pv':AV):Prop where
 run:RunAt E B s2 pv' st'
 rk:RK B pv st pv' st'
 steps:s.steps≤s2.steps
 few:s2.ps.length≤2*s2.steps
 more:s.ps.length≤s2.ps.length
def c2A (E:REnv) (B:St) (s:RS) (pv:AV) (st:St) (r:Val×RS) (a:AV) (st':St):Prop:=∃ e,a=.agg r.1.row∧Goes E B s pv st r.2 st' e
def b6f (E:REnv) (B:St) (s:RS) (pv:AV) (st:St) (r:a9B) (a:AV) (st':St):Prop:=∃ e,a=.tuple [.agg r.1.1.row,.bool r.1.2]∧Goes E B s pv st r.2 st' e
structure FsAt (B:St) (pv:AV) (st:St) (fo:Nat) (fs:List Sel) (N:Nat):Prop where
 at_:st[fo]?=some (.cells (s4 fs))
 ne:fo≠B.length∧u9 pv≠some fo
 x:fs≠[]∧SelX N fs
theorem FsAt.keep {B:St} {pv l:AV} {st st':St} {fo:Nat} {fs:List Sel} {N M:Nat} (h:FsAt B pv st fo fs N) (u:RK B pv st l st') (v:N≤M):FsAt B l st' fo fs M:=by
 refine⟨u.keep fo _ h.ne.1 h.ne.2 h.at_,⟨h.ne.1,fun t=>?_⟩,h.x.1,h.x.2.ok,h.x.2.rg,Nat.le_trans h.x.2.sz v⟩;rcases u.pv with e|e
 · rw[e]at t; exact h.ne.2 t
 · have:=e fo t;have:=(AB.1 h.at_).1;omega
theorem PAt.len {b:Nat} {pv:AV} {ps:List (List (List Nat)×Int)} {st:St} (h:PAt b pv ps st):∀ (call:d8) (bx:AV) (st:St),H6 call [pv] bx st=some (.int .i64 ps.length,bx,st):=fun call bx st=>by rcases h with⟨rfl,rfl⟩|⟨o,_,rfl,_⟩<;>rfl
theorem a1U {E:REnv} {B:St} {s:RS} {pv:AV} {st:St} (h:RunAt E B s pv st) {t:TRef} {v:Val} {fs:List Sel} {fo:Nat} {key:List Nat} {path:List (List Nat)} (Z:path≠[]) (a0:path.length≤s.steps) (W:s.ps.length+2≤2*s.steps) (V:VF)
 (N:EvQ tbl 174 [.ptr B.length 0,.agg t.row,.agg v.row,.agg [.str key,.sl fo 0 fs.length 7],.list false (path.map b9)] st (c2A E B s pv st (V t v fs path s))) :
 EvQ tbl 133 [.ptr B.length 0,.agg t.row,.agg v.row,.agg [.str key,.sl fo 0 fs.length 7],.list false (path.map b9)] st (b6f E B s pv st (H3 V t v fs path s)):=by
 have I:=h.ob;have Y:=h.le;have C:=h.pr.len;obtain⟨w1,w2,w3,w4,w5,w6,w7⟩:=h.pr.wk;unfold H9 at I;rw[t.row_eta,v.row_eta]at *
 unfold H3;revert N;generalize V t v fs path s=r;obtain⟨out,M⟩:=r;intro N;dsimp only;refine wj (fn:=a133) rfl rfl rfl ?_;simp only[a6P,rA,rS,rE,I,C,w1,w2,w4];refine wa N rfl rfl ?_;rintro _ st2 ⟨y,rfl,e⟩;have u:=e.run.ob;have l:=e.run.pr.len;have z:=e.run.le;have x:=e.more;have J:=e.steps;obtain⟨x1,x2,x3,x4,x5,x6,x7⟩:=e.run.pr.wk;unfold H9 at u;dsimp only at u l z x J;rw[out.row_eta];rcases e8 (eqI out.kind 0 && t.bang)with hc|hc
 · rw[if_pos hc];rw[AA]at hc;simp only[a6P,rA,rE,hc.1,hc.2,u,l,x1,x2,x4];by_cases L:M.ps.length=s.ps.length
   · rw[if_pos L];simp only[a6P,rE,L];refine wa (a26 e.run Z (by omega) (by dsimp only; omega) 9) rfl rfl ?_;rintro _ a1 ⟨U,T,O⟩;simp only[a6P,rA];refine wc ⟨_,_,rfl,U,by rw[Val.none_row]; rfl,T,e.rk.trans O,J,?_,?_⟩
     · show(M.ps++[(path,9)]).length≤2*M.steps;simp; omega
     · show s.ps.length≤(M.ps++[(path,9)]).length;simp; omega
   · rw[if_neg L];simp only[a6P,rA,decide_eq_false L];exact wc ⟨_,_,rfl,y,by rw[Val.none_row]; rfl,e⟩
 · rw[hc,if_neg (by decide)];rcases e8 (eqI out.kind 0)with h0|h0
   · rw[h0,Bool.true_and]at hc;simp only[a6P,rA,rE,h0,hc];exact wc ⟨_,_,rfl,y,by rw[out.row_eta]; rfl,e⟩
   · simp only[a6P,rA,rE,h0];exact wc ⟨_,_,rfl,y,by rw[out.row_eta]; rfl,e⟩
def b2c (E:REnv) (B:St) (n:Nat):Prop:=∀ {s:RS} {pv:AV} {st:St},RunAt E B s pv st→∀ {t:TRef} {v:Val} {fs:List Sel} {fo:Nat} {key:List Nat} {path:List (List Nat)},VX v→FsAt B pv st fo fs (2001*(s.steps+1))→path≠[]→path.length≤s.steps→s.ps.length+2≤2*s.steps→5001 < n+s.steps →
 EvQ tbl 174 [.ptr B.length 0,.agg t.row,.agg v.row,.agg [.str key,.sl fo 0 fs.length 7],.list false (path.map b9)] st (c2A E B s pv st (valF E n t v fs path s))
theorem Ent.Good.x {x:Ent} (h:x.Good):a3o x:=⟨h.kl,h.le,fun v e=>(h.sm v e).vx⟩
def c7y (E:REnv) (B:St) (n:Nat):Prop:=∀ {s:RS} {pv:AV} {st:St},RunAt E B s pv st→∀ {typ:List Nat} {x:Ent} {l:List Sel} {path:List (List Nat)},a3o x→SelX (2001*(s.steps+1)) l→path.length≤s.steps→s.ps.length≤2*s.steps→5001 < n+s.steps+1 →
 EvQ tbl 39 [.ptr B.length 0,.str typ,.agg x.row,.list false (l.map Sel.row),.list false (path.map b9)] st (b6f E B s pv st (I2 E (valF E n) typ x path (E.grp typ l) [] [] s))
theorem c7o {E:REnv} {B:St} (t:E.OK B) {s:RS} {pv:AV} {st:St} (h:RunAt E B s pv st) (n:List Nat) {v:Val} (y:VX v):EvQ tbl 193 [.ptr B.length 0,.str n,.agg v.row] st (fun a st'=>Gr st st'∧a=.bool (a4w E n v)):=by
 have e:=h.ob;have u:=t.fits st h.gr n v y;unfold H9 at e;rw[v.row_eta]at *
 unfold a4w;refine wj (fn:=a193) rfl rfl rfl ?_;simp only[b9I,rS,rE];refine wi (fun l=>?_) (fun l=>?_)
 · rw[if_pos l];simp only[b9I,rE];exact wc ⟨_,_,rfl,Gr.refl _,rfl⟩
 · rw[show eqN n [73,68]=false from l,if_neg (by decide)];simp only[b9I,rA,rL,rE,e];refine wa u rfl rfl ?_;rintro _ st2 ⟨x,rfl⟩;simp only[SS];exact wc ⟨_,_,rfl,x,rfl⟩
theorem VX.vals {v:Val} (h:VX v):v.vals.length≤100000∧(∀ u∈v.vals,VX u)∧v.names=[]∧v.kind≠6:=by obtain⟨k,n,s,ls,rfl,e,l,t⟩:=h;exact⟨l,fun u hu=>by obtain⟨k,n,s,rfl,x⟩:=t u hu; exact VX.one x,rfl,e⟩
theorem Goes.refl {E:REnv} {B:St} {s:RS} {pv:AV} {st:St} (h:RunAt E B s pv st) (e:s.ps.length≤2*s.steps):Goes E B s pv st s st pv:=⟨h,RK.refl _ _ _,AK _,e,AK _⟩
theorem Goes.trans {E:REnv} {B:St} {s u v:RS} {pv l t:AV} {st st1 st2:St} (h:Goes E B s pv st u st1 l) (e:Goes E B u l st1 v st2 t):Goes E B s pv st v st2 t:=⟨e.run,h.rk.trans e.rk,Nat.le_trans h.steps e.steps,e.few,Nat.le_trans h.more e.more⟩
theorem Goes.grow {E:REnv} {B:St} {s t:RS} {pv e:AV} {st st1 st2:St} (h:Goes E B s pv st t st1 e) (l:Gr st1 st2):Goes E B s pv st t st2 e:=⟨h.run.grow l,h.rk.trans (RK.of_gr l l.len),h.steps,h.few,h.more⟩
theorem RS.step_le (s:RS):s.steps≤s.step.steps∧s.step.steps≤s.steps+1∧(s.step.steps≤5000→s.step.steps=s.steps+1):=by unfold RS.step;dsimp only;split<;>omega
theorem b0q {E:REnv} {B:St} {s:RS} {pv:AV} {st st':St} (t:s.ps.length≤2*s.steps) (e:RunAt E B s.step pv st') (l:RK B pv st pv st'):Goes E B s pv st s.step st' pv :=
 ⟨e,l,s.step_le.1,by have:=s.step_le.1; show s.ps.length≤_; omega,AK _⟩
theorem a2O {E:REnv} {B:St} {s:RS} {pv:AV} {st:St} {path:List (List Nat)} {e:Int} {l:AV} {st':St} (v:s.ps.length+1≤2*s.steps) (t:RunAt E B (s.prob path e) l st') (u:RK B pv st l st'):Goes E B s pv st (s.prob path e) st' l :=
 ⟨t,u,AK _,by show(s.ps++[(path,e)]).length≤2*s.steps; simp; omega,by show s.ps.length≤(s.ps++[(path,e)]).length; simp⟩
theorem a9M {E:REnv} {B:St} {s:RS} {pv:AV} {st st2:St} (h:RunAt E B s pv st) (t:s.ps.length≤2*s.steps) (u:Gr st st2) (nm:List Nat) :
 ∃ e,Goes E B s pv st (E.know s nm) e pv∧e=if E.knows nm then st2 else st2.set B.length (.cells [.ptr E.so 0,.list false E.ops,.list false E.frs,E.v,.bool E.whole,E.tv,.int .u8 E.vk,.int .i64 E.vn,.str E.vs,.list false E.vks,.list false E.vls,pv,.bool true,.int .i64 s.steps]):=by
 have l:=(Goes.refl h t).grow u;rcases e8 (E.knows nm)with hkn|hkn
 · exact⟨_,by rw[REnv.know,if_pos hkn]; exact l,by rw[if_pos hkn]⟩
 · refine⟨_,?_,by rw[hkn,if_neg (by decide)]⟩;obtain⟨a1,a2⟩:=l.run.put (s':=⟨s.ps,true,s.steps⟩) rfl h.le;rw[REnv.know,hkn,if_neg (by decide)];exact l.trans ⟨a1,a2,AK _,l.few,AK _⟩
theorem b3Y (E:REnv) (s:RS) (nm:List Nat):(E.know s nm).steps=s.steps∧(E.know s nm).ps=s.ps:=by unfold REnv.know; split<;>exact⟨rfl,rfl⟩
theorem b7i (s:List Nat) (ks:List (List Nat)):ks.map b9++[[.str s]]=(ks++[s]).map b9:=by rw[AW]; rfl
theorem c1T {E:REnv} {B:St} (Y:E.OK B) {n:Nat} (e3:b2c E B n) (e1:c7y E B n):b2c E B (n+1):=by
 intro s pv st h t v fs fo key path hv b5 hp f3 e5 d3;have b1:=h.ob;have f2:=h.le;obtain⟨f6,e0,f7,f5⟩:=hv.vals;obtain⟨w1,w2,w3,w4,w5,w6,w7⟩:=h.pr.wk;unfold H9 at b1;rw[valF.eq_def];dsimp only;have c1:=fun e=>a26 h hp (by omega) (by omega) e
 have bad:∀ {P:AV×St→Prop},True:=trivial
 rw[t.row_eta,v.row_eta];refine wj (fn:=a174) rfl rfl rfl ?_;simp only[H0,rS,rE];rcases e8 (eqI v.kind 0)with h0|h0
 · rw[if_pos h0];simp only[H0,rA,h0];exact wc ⟨_,_,rfl,pv,by rw[v.row_eta]; rfl,Goes.refl h (by omega)⟩
 rw[h0,if_neg (by decide)];cases t with
 | wrap u b =>
  dsimp only;simp only[H0,rE,TRef.nm,TRef.of,TRef.bang,show ltI 0 (((0+1:Nat)):Int)=true from rfl];rcases e8 (eqI v.kind 5)with h5|h5
  · rw[if_pos h5];simp only[H0,rA,rL,h5,AG];generalize d1:M5 (valF E n) u fs path v.vals 0 [] s=R;refine wg (fun mm fr st'=>∃ (i:Nat) (L:List Val) (s1:RS) (a5 c6 c7 v12 c8:AV),i≤v.vals.length∧mm=v.vals.length - i∧L.length≤i∧Goes E B s pv st s1 st' a5∧R=M5 (valF E n) u fs path (v.vals.drop i) i L s1 ∧
     fr=[.ptr B.length 0,.agg [.str [],.list false [u.row],.bool b],.agg [.int .u8 v.kind,.int .i64 v.num,.str v.text,.list false (v.names.map b9),.list false (v.vals.map Val.row)],.agg [.str key,.sl fo 0 fs.length 7],.list false (path.map b9),.box [.str [],.list false [u.row],.bool b],
      .box [.int .u8 v.kind,.int .i64 v.num,.str v.text,.list false (v.names.map b9),.list false (v.vals.map Val.row)],.box [.str key,.sl fo 0 fs.length 7],.box [.int .u8 0,.int .i64 0,.str [],.list true [],.list true []],.box [.int .u8 5,.int .i64 0,.str [],.list true [],.list true (L.map Val.row)],c6,c7,v12,c8,.undef,.undef,.undef,.list false (v.vals.map Val.row),.int .i64 v.vals.length,.int .i64 i])
     (m:=v.vals.length) ⟨0,[],s,pv,_,_,_,_,Aa _,rfl,AK _,Goes.refl h (by omega),d1.symm,rfl⟩ ?_
    rintro mm fr st1 ⟨i,L,s1,a5,c6,c7,v12,c8,hi,rfl,e4,T,J,rfl⟩;simp only[H0];by_cases W:i < v.vals.length
    rotate_left
    · rw[List.drop_of_length_le (by omega),M5]at J;simp only[SS,W];refine we ?_;simp only[H0,rA];exact wc ⟨_,_,rfl,a5,by rw[J,Val.row_eq]; rfl,J ▸ T⟩
    have e2:=a0U W;have hx:=e0 _ (List.getElem_mem W);rw[List.drop_eq_getElem_cons W,M5]at J;revert e2 hx J;generalize v.vals[i]=x;intro J e2 hx;have f1:i≤100000:=by omega
    rw[x.row_eta]at e2;have f4:=T.steps;have e7:=T.run.le;have d7:=s1.step_le;simp only[H0,rA,rE,W,e2];refine wa (b9f T.run) rfl rfl ?_;rintro _ st2 ⟨rfl,b2,N⟩;have b3:=b0q T.few b2 N;by_cases c:s1.step.steps≤5000
    rotate_left
    · rw[if_neg c]at J;simp only[H0,rA,decide_eq_false c];refine wh ?_;simp only[SS];exact wc ⟨_,_,rfl,a5,by rw[J,Val.none_row]; rfl,J ▸ T.trans b3⟩
    rw[if_pos c]at J;have d2:=a7g path (by omega) st2;have d5:l5 1 (path.map b9)=true:=a4t path;have g1:((path.map b9).length+1)*16≤2 ^ 47:=by rw[AG]; omega
    have b6:=b5.keep (T.rk.trans N) (M:=2001*(s1.step.steps+1)) (by have:=d7.1; omega);have e9:=T.few;have a4:=a1U b2 (t:=u) (v:=x) (fs:=fs) (fo:=fo) (key:=key) (path:=path++[L0 (i:Int)]) (by simp) (by simp; omega) (by show s1.ps.length+2≤_; omega) (valF E n) (e3 b2 hx b6 (by simp) (by simp; omega) (by show s1.ps.length+2≤_; omega) (by omega));revert a4 J;generalize H3 (valF E n) u x fs (path++[L0 (i:Int)]) s1.step=r;obtain⟨⟨y,ok⟩,s2⟩:=r;intro J a4;dsimp only at J;rw[u.row_eta,x.row_eta,← b7i]at a4;simp only[H0,rA,rE,decide_eq_true c,u.row_eta];refine wa d2 rfl rfl ?_;rintro _ st2 ⟨rfl,rfl⟩;simp only[SS];refine wa (c6R i (by omega) st2) rfl rfl ?_;rintro _ st2 ⟨rfl,rfl⟩;simp only[SS,d5,g1];refine wa a4 rfl rfl ?_;rintro _ O ⟨c4,rfl,z⟩;dsimp only at z;rw[y.row_eta];have b4:=(T.trans b3).trans z;cases ok with
    | false =>rw[if_neg (by decide)]at J;simp only[H0,rA,rE];refine wh ?_;simp only[SS];exact wc ⟨_,_,rfl,c4,by rw[J,Val.none_row]; rfl,J ▸ b4⟩
    | true =>
     rw[if_pos rfl]at J;have d6:l5 5 (L.map Val.row)=true:=a0n L;have g5:((L.map Val.row).length+1)*80≤2 ^ 47:=by rw[AG]; omega
     simp only[H0,rA,rE,d6,g5,k7 (show i+1 < 2 ^ 63 by omega)];exact wd (m':=v.vals.length - (i+1)) (by omega) ⟨i+1,L++[y],s2,c4,_,_,_,_,W,rfl,by simp; omega,b4,J,by rw[AW,AH,AM,y.row_eta]⟩
  · rw[h5,if_neg (by decide)];simp only[H0,rE];refine wa (c1 8) rfl rfl ?_;rintro _ st2 ⟨a0,h2,N⟩;simp only[H0,rA];exact wc ⟨_,_,rfl,a0,by rw[Val.none_row]; rfl,a2O (by omega) h2 N⟩
 | base nm b =>
  dsimp only;simp only[H0,rE,TRef.nm,TRef.of,TRef.bang,show ltI 0 ((0:Nat):Int)=false from rfl,b1];refine wa (Y.leaf st h.gr nm) rfl rfl ?_;rintro _ st ⟨rfl,rfl⟩;rcases e8 (E.leaf nm)with hl|hl
  · rw[if_pos hl];have hq:=c7o Y h nm hv;rw[v.row_eta]at hq;simp only[H0,rA,rE,hl];refine wa hq rfl rfl ?_;rintro _ st2 ⟨hg,rfl⟩;have T:=(Goes.refl h (by omega)).grow hg;rcases e8 (a4w E nm v)with hb|hb
    · rw[if_pos hb];simp only[H0,rA,hb];exact wc ⟨_,_,rfl,pv,by rw[v.row_eta]; rfl,T⟩
    · rw[hb,if_neg (by decide)];simp only[H0,rE];refine wa (a26 T.run hp (by omega) (by omega) 8) rfl rfl ?_;rintro _ O ⟨a0,h2,N⟩;simp only[H0,rA];exact wc ⟨_,_,rfl,a0,by rw[Val.none_row]; rfl,T.trans (a2O (by omega) h2 N)⟩
  rw[hl,if_neg (by decide)];simp only[H0,rE];rcases e8 (eqI v.kind 8)with h8|h8
  rotate_left
  · rw[h8,if_neg (by decide)];simp only[H0,rE];refine wa (c1 8) rfl rfl ?_;rintro _ st2 ⟨a0,h2,N⟩;simp only[H0,rA];exact wc ⟨_,_,rfl,a0,by rw[Val.none_row]; rfl,a2O (by omega) h2 N⟩
  rw[if_pos h8];obtain⟨t1,t2,t3⟩:=Y.tvw;obtain⟨y1,y2,y3,y4,y5,y6,y7⟩:=Y.ents.wk;have pl:(AV.agg [E.v,.bool E.whole,E.tv]).plain=true:=rfl;simp only[H0,rA,rL,rE,h8,b1,t1,y2];refine wa (Y.knows st h.gr nm) (by simp only[R.allPlain_c,R.allPlain_n,R.plain_agg]; rfl) (by simp only[AH,AM,R4,t1,y2]; rfl) ?_;rintro _ st2 ⟨hg,rfl⟩;have T:=(Goes.refl h (by omega)).grow hg;have c2:=a9M h (by omega) hg nm;obtain⟨O,z,I⟩:=c2;have a9:=T.run.ob;unfold H9 at a9;obtain⟨es,ep⟩:=b3Y E s nm;revert I;have Z:=z.run.ob;have C:=b5.keep z.rk (M:=2001*((E.know s nm).steps+1)) (by rw[es]; exact AK _);have a7:=z.run.gr;have b0:EntsAt E.v E.es O:=Y.ents.gr a7;have b7:=b5f b0 Y.sorted (by have:=Y.esl; omega) v.text;have U:∀ e,F4 E.es v.text=some e→a3o e:=fun e he=>Y.good e (a23 he).1
  have c3:=d2Y C.x.2.ok (by have:=C.x.2.sz; omega) C.at_ key;have b8:=fun(x:Ent) (hx:a3o x)=>e1 z.run (typ:=x.t) (x:=x) (l:=B8 fs) (path:=path) hx ⟨c4b C.x.2.ok,c4z C.x.2.rg,Nat.le_trans (a4H fs) C.x.2.sz⟩ (by omega) (by rw[ep,es]; omega) (by omega)
  have e6:∀ r:a9B,∀ a6 a1,Goes E B (E.know s nm) pv O r.2 a6 a1→Goes E B s pv st r.2 a6 a1:=fun r a6 a1 h=>z.trans h
  unfold H9 at Z;rcases e8 (E.knows nm)with hkn|hkn<;>rw[hkn]<;>intro I
  rw[if_pos rfl]at I
  rotate_left
  rw[if_neg (by decide)]at I;all_goals
   simp only[H0,rA,rL,rE,a9];rw[← I];clear I
  all_goals
   simp only[SS,rA,rL,Z,y2];refine wa b7 (by simp only[R.allPlain_c,R.allPlain_n,R.plain_agg]; rfl) (by simp only[AH,AM,R4,y2]; rfl) ?_;rintro _ O ⟨rfl,rfl⟩;revert U;cases f0:F4 E.es v.text with
   | none =>intro _;rw[Option.getD_none];simp only[H0,rA,rE,Ent.none,Ent.row,Option.isSome_none];exact wc ⟨_,_,rfl,pv,by rw[Val.none_row]; rfl,z⟩
   | some x =>
    intro U;have d4:=U x rfl;have c0:=b8 x d4;have ex:x.row=[.str x.t,.str x.id,.list false (x.ks.map b9),.list false (x.ls.map Val.row)]:=rfl;rw[Option.getD_some,ex];rw[ex]at c0;dsimp only;simp only[H0,rA,rE,Option.isSome_some,Z];refine wa (Y.poss _ a7 nm) rfl rfl ?_;rintro _ O ⟨rfl,rfl⟩;simp only[SS];refine wa (I4 (E.poss nm) (Y.possl nm) x.t _) rfl rfl ?_;rintro _ O ⟨rfl,rfl⟩;rcases e8 (k9 (E.poss nm) x.t)with hh|hh
    · rw[if_pos hh];simp only[H0,rA,rE,hh];refine wa c3 rfl rfl ?_;rintro _ O ⟨rfl,rfl⟩;simp only[SS];refine wa c0 rfl rfl ?_;rintro _ a6 ⟨a1,rfl,d0⟩;have a2:=z.trans d0;revert a2;generalize I2 E (valF E n) x.t x path (E.grp x.t (B8 fs)) [] [] (E.know s nm)=r;obtain⟨⟨y,ok⟩,s2⟩:=r;intro a2;dsimp only at a2 ⊢;rw[y.row_eta];simp only[H0,rA];exact wc ⟨_,_,rfl,a1,by rw[y.row_eta]; rfl,a2⟩
    · rw[hh,if_neg (by decide)];simp only[H0,rA];exact wc ⟨_,_,rfl,pv,by rw[Val.none_row]; rfl,z⟩
theorem c8O {x:Ent} (e:a3o x) (n:List Nat):VX (atK 6 x.ks x.ls n):=by
 unfold atK;rw[if_pos (show eqI 6 6=true from rfl)];cases l:pI (fun y=>eqN n y) x.ks with
 | none=>exact VX.none
 | some i =>
  dsimp only;cases hi:x.ls[i]? with
  | none=>exact VX.none
  | some v=>exact e.2.2 v (List.mem_of_getElem? hi)
theorem c1j {α:Type} (l:List α):eqI (l.length:Int) 0=l.isEmpty:=by
 cases l with
 | nil=>rfl
 | cons a l=>rw[eqI_eq]; simp; omega
theorem c5O {l:List Ent} (e:l.length≤100000):VX (.mk 5 0 [] [] (l.map fun y=>W3 y.id)) :=
 ⟨5,0,[],_,rfl,by decide,by rw[AG]; exact e,fun u hu=>by obtain⟨y,_,rfl⟩:=List.mem_map.1 hu; exact⟨_,_,_,rfl,by decide⟩⟩
theorem EntsAt.len {v:AV} {es:List Ent} {st:St} (h:EntsAt v es st):∀ (call:d8) (bx:AV) (st:St),H6 call [v] bx st=some (.int .i64 es.length,bx,st):=fun call bx st=>by rcases h with⟨rfl,rfl⟩|⟨o,rfl,_⟩<;>rfl
theorem EntsAt.get {v:AV} {es:List Ent} {st:St} (h:EntsAt v es st) {i:Nat} (hi:i < es.length):∃ a,(∀ (call:d8) (bx:AV) (st:St),L8 4 call [v,.int .i64 i] bx st=some (a,bx,st))∧(∀ (call:d8) (bx:AV),J6 true 4 call [a] bx st=some (.agg es[i].row,bx,st))∧a.stripB=a∧a.weak=a:=by
 rcases h with⟨rfl,rfl⟩|⟨o,rfl,e⟩
 · cases hi
 · refine⟨.ptr o (i*4),fun call bx st=>?_,fun call bx=>a6Q e hi call bx,rfl,rfl⟩;simp only[L8];rw[if_pos ⟨by omega,by omega,trivial⟩,Int.toNat_natCast,Nat.zero_add]
theorem c07 {E:REnv} {B:St} (W:E.OK B) {n:Nat} (b4:b2c E B n) {s:RS} {pv:AV} {st:St} (h:RunAt E B s pv st) {typ:List Nat} {x:Ent} (hx:a3o x) {f:FDef} {nm:List Nat} (hf:E.fld typ nm=some f) {fs:List Sel} {fo:Nat} {key:List Nat} {path:List (List Nat)} (c3:FsAt B pv st fo fs (2001*(s.steps+1)))
 (hp:path≠[]) (c8:path.length≤s.steps) (u:s.ps.length+2≤2*s.steps) (b2:5001 < n+s.steps) :
 EvQ tbl 87 [.ptr B.length 0,.str typ,.agg x.row,.agg f.row,.agg [.str key,.sl fo 0 fs.length 7],.list false (path.map b9)] st (b6f E B s pv st (M3 E (valF E n) typ x f fs path s)):=by
 have e5:=W.esl;have c7:=h.ob;have f1:=h.le;obtain⟨w1,w2,w3,w4,w5,w6,w7⟩:=h.pr.wk;unfold H9 at c7;have hC:=fun(v:Val) (hv:VX v)=>a1U h (t:=f.t) (v:=v) (fs:=fs) (fo:=fo) (key:=key) hp c8 u (valF E n) (b4 h hv c3 hp c8 u b2)
 unfold M3 Q4 H4 idN;obtain⟨v,e,a5⟩:∃ v e,E.args f (a3B fs)=(v,e):=⟨_,_,rfl⟩
 rw[a5];dsimp only;rw[show x.row=[.str x.t,.str x.id,.list false (x.ks.map b9),.list false (x.ls.map Val.row)]from rfl,FDef.row];refine wj (fn:=a87) rfl rfl rfl ?_;simp only[K87,rS,rE];rcases e8 (eqN f.n [95,95,116,121,112,101,110,97,109,101])with h0|h0
 · rw[if_pos h0];simp only[K87,rA,rL,rE,h0];exact wc ⟨_,_,rfl,pv,by rw[Val.row_eq]; rfl,Goes.refl h (by omega)⟩
 rw[h0,if_neg (by decide)];simp only[K87,rE];rcases e8 (eqN typ [81,117,101,114,121])with h1|h1
 rotate_left
 · rw[h1,Bool.not_false,if_pos rfl];have Y:=hC _ (c8O hx f.n);rw[f.t.row_eta,(atK 6 x.ks x.ls f.n).row_eta]at Y;simp only[K87,rA,rL,rE];refine wa (b7G (k:=6) (by have:=hx.2.1; omega) (fun _=>hx.1) f.n st) rfl rfl ?_;rintro _ st ⟨rfl,b,rfl⟩;rw[(atK 6 x.ks x.ls f.n).row_eta];simp only[K87,rA,rL,rE];refine wa Y rfl rfl ?_;rintro _ st2 ⟨O,rfl,J⟩;revert J;generalize H3 (valF E n) f.t (atK 6 x.ks x.ls f.n) fs path s=r;obtain⟨⟨y,ok⟩,s2⟩:=r;intro J;dsimp only at J ⊢;rw[y.row_eta];simp only[SS,rA];exact wc ⟨_,_,rfl,O,by rw[y.row_eta]; rfl,J⟩
 rw[h1,Bool.not_true,if_neg (by decide)];have hb:=c9p f.t st;rw[f.t.row_eta]at hb;simp only[K87,rA,rL,rE];refine wa hb rfl rfl ?_;rintro _ st ⟨rfl,rfl⟩;obtain⟨t1,t2,t3⟩:=W.tvw;obtain⟨y1,y2,y3,y4,y5,y6,y7⟩:=W.ents.wk;simp only[K87,rA,rL,rE,c7,t1,y2];refine wa (W.knows st h.gr f.t.bs) (by simp only[R.allPlain_c,R.allPlain_n,R.plain_agg]; rfl) (by simp only[AH,AM,R4,t1,y2]; rfl) ?_;rintro _ st2 ⟨hg,rfl⟩;obtain⟨b5,I,C⟩:=a9M h (by omega) hg f.t.bs;have a7:=((Goes.refl h (by omega)).grow hg).run.ob;obtain⟨es,ep⟩:=b3Y E s f.t.bs;have T:=I.run.ob;have z:=c3.keep I.rk (M:=2001*((E.know s f.t.bs).steps+1)) (by rw[es]; exact AK _);have a0:=I.run.gr;have Z:EntsAt E.v E.es b5:=W.ents.gr a0;have e0:=fun(v:Val) (hv:VX v)=>a1U I.run (t:=f.t) (v:=v) (fs:=fs) (fo:=fo) (key:=key) hp (by omega) (by rw[ep,es]; exact u) (valF E n) (b4 I.run hv z hp (by omega) (by rw[ep,es]; exact u) (by omega))
 unfold H9 at a7 T;revert C;rcases e8 (E.knows f.t.bs)with hkn|hkn<;>rw[hkn]<;>intro C
 rw[if_pos rfl]at C
 rotate_left
 rw[if_neg (by decide)]at C;all_goals
  simp only[K87,rA,rL,rE,a7,c1j];rw[← C];clear C;rcases e8 f.ar.isEmpty with ha|ha
  · rw[if_pos ha];simp only[K87,rA,rL,rE,ha,T,Z.len,y1,y2,y3];refine wg (fun mm fr st'=>st'=b5∧∃ (i:Nat) (d4:AV),i≤E.es.length∧mm=E.es.length - i ∧
     fr=[.ptr B.length 0,.str typ,.agg [.str x.t,.str x.id,.list false (x.ks.map b9),.list false (x.ls.map Val.row)],.agg [.str f.n,.list false f.ar,.str f.t.nm,.list false f.t.of,.bool f.t.bang,.bool f.has,.int .u8 f.v.kind,.int .i64 f.v.num,.str f.v.text,.list false (f.v.names.map b9),.list false (f.v.vals.map Val.row)],
      .agg [.str key,.sl fo 0 fs.length 7],.list false (path.map b9),.box [.str x.t,.str x.id,.list false (x.ks.map b9),.list false (x.ls.map Val.row)],.box [.str f.n,.list false f.ar,.str f.t.nm,.list false f.t.of,.bool f.t.bang,.bool f.has,.int .u8 f.v.kind,.int .i64 f.v.num,.str f.v.text,.list false (f.v.names.map b9),.list false (f.v.vals.map Val.row)],
      .box [.str key,.sl fo 0 fs.length 7],.box [.int .u8 0,.int .i64 0,.str [],.list true [],.list true []],.bool false,.undef,.str f.t.bs,.box [.int .u8 5,.int .i64 0,.str [],.list true [],.list true ((((E.es.take i).filter fun y=>k9 (E.poss f.t.bs) y.t).map fun y=>W3 y.id).map Val.row)],d4,.undef,.undef,.undef,E.v,.int .i64 E.es.length,.int .i64 i])
     (m:=E.es.length) ⟨rfl,0,_,Aa _,rfl,rfl⟩ ?_
    rintro mm fr d2 ⟨rfl,i,d4,hi,rfl,rfl⟩;simp only[K87];by_cases U:i < E.es.length
    rotate_left
    · rw[List.take_of_length_le (by omega)];have b3:=c5O (l:=E.es.filter fun y=>k9 (E.poss f.t.bs) y.t) (Nat.le_trans (List.length_filter_le _ _) (by have:=W.esl; omega));have Y:=e0 _ b3;rw[f.t.row_eta,Val.row_eq,AM]at Y;revert Y;generalize ((E.es.filter fun y=>k9 (E.poss f.t.bs) y.t).map fun y=>W3 y.id)=L;intro Y;simp only[SS,U];refine we ?_;simp only[K87,rA,rL,rE];refine wa Y rfl rfl ?_;rintro _ st2 ⟨O,rfl,J⟩;have J:=I.trans J;revert J;generalize H3 (valF E n) f.t (.mk 5 0 [] [] L) fs path (E.know s f.t.bs)=r;obtain⟨⟨y,ok⟩,s2⟩:=r;intro J;dsimp only at J ⊢;rw[y.row_eta];simp only[SS,rA];exact wc ⟨_,_,rfl,O,by rw[y.row_eta]; rfl,J⟩
    obtain⟨a,d5,c0,d6,d7⟩:=Z.get U;have e3:E.es.take (i+1)=E.es.take i++[E.es[i]]:=by rw[List.take_add_one,AE U]; rfl
    have e7:((((E.es.take i).filter fun y=>k9 (E.poss f.t.bs) y.t).map fun y=>W3 y.id).map Val.row).length≤1000:=by rw[AG,AG];have:=List.length_filter_le (fun y=>k9 (E.poss f.t.bs) y.t) (E.es.take i);rw[AP]at this;have:=W.esl;omega
    have a1:l5 5 ((((E.es.take i).filter fun y=>k9 (E.poss f.t.bs) y.t).map fun y=>W3 y.id).map Val.row)=true:=a0n _;have a4:∀ e:Ent,E.es[i]=e→∀ (w:AV) b,k9 (E.poss f.t.bs) e.t=b→(((E.es.take (i+1)).filter fun y=>k9 (E.poss f.t.bs) y.t).map fun y=>W3 y.id).map Val.row=(((E.es.take i).filter fun y=>k9 (E.poss f.t.bs) y.t).map fun y=>W3 y.id).map Val.row++(if b then [[.int .u8 8,.int .i64 0,.str e.id,.list false [],.list false []]]else []):=fun e he w b hb=>by
     rw[e3,he,List.filter_append,AW,AW];cases b
     · simp[hb]
     · simp[hb,W3,Val.row_eq]
    have e9:k9 (E.poss f.t.bs)=k9 (E.poss f.t.bs):=rfl;generalize e6:E.es[i]=e at *
    have a4:=a4 e rfl .undef;have ee:e.row=[.str e.t,.str e.id,.list false (e.ks.map b9),.list false (e.ls.map Val.row)]:=rfl;rw[ee]at c0;have g5:((((E.es.take i).filter fun y=>k9 (E.poss f.t.bs) y.t).map fun y=>W3 y.id).map Val.row).length+1≤1001:=by omega
    simp only[K87,rA,rE,U,y1,d5,c0,d6,d7,T];refine wa (W.poss _ a0 f.t.bs) rfl rfl ?_;rintro _ d2 ⟨rfl,rfl⟩;simp only[SS];refine wa (I4 (E.poss f.t.bs) (W.possl _) e.t _) rfl rfl ?_;rintro _ d2 ⟨rfl,rfl⟩;rcases e8 (k9 (E.poss f.t.bs) e.t)with hh|hh
    · simp only[K87,rA,rL,rE,hh,a1,show(((((E.es.take i).filter fun y=>k9 (E.poss f.t.bs) y.t).map fun y=>W3 y.id).map Val.row).length+1)*80≤2 ^ 47 by omega,k7 (show i+1 < 2 ^ 63 by omega)];exact wd (m':=E.es.length - (i+1)) (by omega) ⟨rfl,i+1,_,U,rfl,by rw[a4 _ hh]; rfl⟩
    · simp only[K87,hh,k7 (show i+1 < 2 ^ 63 by omega)];exact wd (m':=E.es.length - (i+1)) (by omega) ⟨rfl,i+1,_,U,rfl,by rw[a4 _ hh,if_neg (by decide),List.append_nil]⟩
  · rw[ha,if_neg (by decide)];obtain⟨k0,b6,d0,d1,N,b7,a9,b0,rfl⟩:∃ k al nm on as ds sub b8,fs=Sel.mk k al nm on as ds sub::b8:=by
     cases fs with
     | nil=>exact absurd rfl z.x.1
     | cons s b8=>obtain⟨k,al,nm,on,as,ds,sub⟩:=s; exact⟨_,_,_,_,_,_,_,_,rfl⟩
    have has:ArgsOK N:=by have:=z.x.2.ok _ (List.mem_cons_self ..);cases this;assumption
    have e2:∀ a∈N,a.v.Rng:=by have:=z.x.2.rg _ (List.mem_cons_self ..);cases this;assumption
    have c2:=z.at_;have b1:s4 (Sel.mk k0 b6 d0 d1 N b7 a9::b0)=[.int .u8 k0,.str b6,.str d0,.str d1,.list false (N.map Arg.row),.list false (b7.map Dir.row),.list false (a9.map Sel.row)]++s4 b0:=by rw[← Sel.row_eq]; rfl
    rw[b1]at c2;have c6:((0:Int) < ((b0.length+1:Nat):Int))=True:=by simp only[eq_iff_iff,iff_true]; omega
    have hq:=W.args b5 a0 nm f (by rw[← hf,(t7 _ _).1 h1]; rfl) ha N has e2;unfold REnv.vars FDef.row at hq;have a6:=W.argsx f N;have a5:E.args f N=(v,e):=a5;rw[a5]at hq a6;dsimp only at hq a6;rw[v.row_eta]at hq;simp only[K87,rA,rL,rE,T,c6,Nat.zero_mul,c2];refine wa hq rfl rfl ?_;rintro _ d3 ⟨a2,w,rfl⟩;have c1:=I.grow a2;have a1:=I.run.grow a2;have c4:=z.keep (RK.of_gr a2 a2.len) (AK _);simp only[K87,rA,rE];rcases e8 (eqI e 0)with he|he
    · rw[if_pos he];have b3:VX (W3 (atK v.kind v.names v.vals [105,100]).text):=VX.one (by decide);have Y:=a1U a1 (t:=f.t) (v:=W3 (atK v.kind v.names v.vals [105,100]).text) (fo:=fo) (key:=key) hp (by omega) (by rw[ep,es]; exact u) (valF E n) (b4 a1 b3 c4 hp (by omega) (by rw[ep,es]; exact u) (by omega));revert Y;generalize f0:H3 (valF E n) f.t (W3 (atK v.kind v.names v.vals [105,100]).text) _ path (E.know s f.t.bs)=r;obtain⟨⟨y,ok⟩,s2⟩:=r;unfold W3;rw[f.t.row_eta,Val.row_eq,AM,AM];intro Y;simp only[K87,rA,rE,he];refine wa (b7G a6.1 a6.2 [105,100] d3) rfl rfl ?_;rintro _ d3 ⟨rfl,b,rfl⟩;rw[(atK v.kind v.names v.vals [105,100]).row_eta];simp only[K87,rA,rL,rE];refine wa Y rfl rfl ?_;rintro _ e4 ⟨O,rfl,J⟩;have J:=c1.trans J;dsimp only at J ⊢;rw[y.row_eta];simp only[SS,rA];exact wc ⟨_,_,rfl,O,by rw[y.row_eta]; rfl,J⟩
    · rw[he,if_neg (by decide)];simp only[K87,rE];refine wa (a26 a1 hp (by omega) (by rw[ep]; omega) e) rfl rfl ?_;rintro _ e4 ⟨O,h2,e1⟩;simp only[K87,rA];exact wc ⟨_,_,rfl,O,by rw[Val.none_row]; rfl,c1.trans (a2O (by rw[ep,es]; omega) h2 e1)⟩
structure Beside (B:St) (pv:AV) (st:St) (i:Nat) (x:Cb.Obj):Prop where
 at_:st[i]?=some x
 ne:i≠B.length∧u9 pv≠some i
theorem Beside.keep {B:St} {pv l:AV} {st st':St} {i:Nat} {x:Cb.Obj} (h:Beside B pv st i x) (u:RK B pv st l st'):Beside B l st' i x:=by
 refine⟨u.keep i _ h.ne.1 h.ne.2 h.at_,h.ne.1,fun t=>?_⟩;rcases u.pv with e|e
 · rw[e]at t; exact h.ne.2 t
 · have:=e i t;have:=(AB.1 h.at_).1;omega
theorem RunAt.beside {E:REnv} {B:St} {s:RS} {pv:AV} {st:St} (h:RunAt E B s pv st) {i:Nat} (hi:st.length≤i):i≠B.length∧u9 pv≠some i :=
 ⟨by have:=(AB.1 h.ob).1; omega,fun e=>by have:=(h.pr.root i e).2; omega⟩
theorem Goes.other {E:REnv} {B:St} {s I:RS} {pv l:AV} {st st1:St} (h:Goes E B s pv st I st1 l) (M:B.length < st.length) {i:Nat} (hi:st.length≤i) (L:u9 l≠some i) (x:Cb.Obj):Goes E B s pv st I (st1.set i x) l:=by
 have v:∀ j y,j≠i→st1[j]?=some y→(st1.set i x)[j]?=some y:=fun j y C N=>by rw[List.getElem?_set_ne (by omega)]; exact N
 refine⟨⟨v _ _ (by omega) h.run.ob,?_,fun j y C=>v j y (by have:=(AB.1 C).1; omega) (h.run.gr j y C),h.run.le,h.run.pl⟩,⟨fun j y z t u=>v j y (by have:=(AB.1 u).1; omega) (h.rk.keep j y z t u),by rw[Ab]; exact h.rk.len,h.rk.pv⟩,h.steps,h.few,h.more⟩;rcases h.run.pr with J|⟨o,z,t,u⟩
 · exact .inl J
 · exact .inr ⟨o,z,t,v o _ (fun e=>L (by rw[t,e]; rfl)) u⟩
theorem c1d {gs:List Grp} {i:Nat} (hi:i < gs.length):(2≤(List.drop (i*2) (B2 gs)).length)=True∧List.map AV.weak1 (List.take 2 (List.drop (i*2) (B2 gs)))=[.str gs[i].key,.sl gs[i].fo 0 gs[i].fs.length 7]:=by have h:=a3t gs i;rw[List.drop_eq_getElem_cons hi,I5]at h;rw[h];exact⟨by simp,rfl⟩
theorem GrpS.w {c:Nat} {st:St} {out:AV} {gs:List Grp} (h:GrpS c st out gs):∃ (w:AV) (go:Nat),out.weak=w∧w.strip=w∧w.weak=w∧(∀ (call:d8) (bx:AV) (st:St),H6 call [w] bx st=some (.int .i64 gs.length,bx,st)) ∧
 (gs≠[]→c < go∧st[go]?=some (.cells (B2 gs))∧∀ i:Nat,i < gs.length→∀ (call:d8) (bx:AV) (st:St),L8 2 call [w,.int .i64 i] bx st=some (.ptr go (i*2),bx,st)):=by
 rcases h.out with⟨rfl,rfl⟩|⟨o,rfl,e,l,_⟩
 · exact⟨.list false [],0,rfl,rfl,rfl,fun _ _ _=>rfl,fun h=>absurd rfl h⟩
 · refine⟨.sl o 0 gs.length 2,o,rfl,rfl,rfl,fun _ _ _=>rfl,fun _=>⟨e,l,fun i hi call bx st=>?_⟩⟩;simp only[L8];rw[if_pos ⟨by omega,by omega,trivial⟩,Int.toNat_natCast,Nat.zero_add]
theorem Beside.other {B:St} {pv:AV} {st:St} {i j:Nat} {x y:Cb.Obj} (h:Beside B pv st i x) (e:j≠i):Beside B pv (st.set j y) i x:=⟨by rw[List.getElem?_set_ne e]; exact h.at_,h.ne⟩
theorem Beside.put {B:St} {pv:AV} {st:St} {i:Nat} {x y:Cb.Obj} (h:Beside B pv st i x):Beside B pv (st.set i y) i y:=⟨List.getElem?_set_self (AB.1 h.at_).1,h.ne⟩
theorem c7A (d o:Nat) (call:d8) (bx:AV) (st:St):G8 d call [.ptr o d,.ptr o 0] bx st=F6 call [.ptr o d] bx st:=by simp only[G8];rw[if_pos ⟨by simp,by simp⟩]
theorem b0p {E:REnv} {B:St} (hE:E.OK B) {n:Nat} (h7:b2c E B n):c7y E B n:=by
 intro s pv st h typ x l path hx hl i6 e0 h1;have c4:=h.ob;have i4:=h.le;have h3:B.length < st.length:=(AB.1 c4).1;obtain⟨w1,w2,w3,w4,w5,w6,w7⟩:=h.pr.wk;have g4:=Goes.refl h e0;have c3:=m3 (y:=E8 [] []) c4;have e3:=hE.grpl typ l ⟨hl.ok,hl.rg,Nat.le_trans hl.sz (by omega)⟩;have e6:=hE.grpx typ l _ hl;have b7:=hE.grp (st++[E8 [] []]) (fun i y hy=>m3 (h.gr i y hy)) typ l ⟨hl.ok,hl.rg,Nat.le_trans hl.sz (by omega)⟩;unfold H9 at c4 c3;unfold REnv.vars at b7;rw[show x.row=[.str x.t,.str x.id,.list false (x.ks.map b9),.list false (x.ls.map Val.row)]from rfl];unfold E8 at *
 rw[AM,AM]at *
 refine wj (fn:=a39) rfl rfl rfl ?_;simp only[K39,rA,rS,rL,rE,p9,V4,c3];refine wa b7 rfl rfl ?_;rintro _ st1 ⟨b6,out,gs,rfl,O,e5⟩;obtain⟨w,go,ew,q1,q2,f1,a1⟩:=O.w;rw[ew];have i0:gs.length≤90000000:=by rw[← e5,AG]at e3; exact e3
 rw[← e5]at e6 ⊢;have d5:Beside B pv st1 st.length (E8 [] []):=⟨b6 _ _ (p9 _ _),h.beside (AK _)⟩;have e1:Gr st st1:=fun i y hy=>b6 i y (m3 hy)
 have M:gs≠[]→Beside B pv st1 go (.cells (B2 gs)):=fun v=>⟨(a1 v).2.1,h.beside (by have:=(a1 v).1; simp at this; omega)⟩
 have L:∀ g∈gs,Beside B pv st1 g.fo (.cells (s4 g.fs)):=fun g hg=>⟨(O.fs g hg).2,h.beside (by have:=(O.fs g hg).1; simp at this; omega)⟩
 have h0:∀ g∈gs,st.length≠g.fo:=fun g hg=>by have:=(O.fs g hg).1; simp at this; omega
 have h2:gs≠[]→st.length≠go:=fun v=>by have:=(a1 v).1; simp at this; omega
 have d1:=g4.grow e1;simp only[SS,q1,q2,f1];clear b7 O b6 c3;generalize d2:I2 E (valF E n) typ x path (gs.map Grp.pr) [] [] s=RR;refine wg (fun mm fr st'=>∃ (i:Nat) (ks:List (List Nat)) (ls:List Val) (Y:RS) (I v9 f4 f5 v12 f6 f7:AV),i≤gs.length∧mm=gs.length - i∧ks.length≤i∧ls.length≤i∧Goes E B s pv st Y st' I∧Beside B I st' st.length (E8 ks ls)∧(gs≠[]→Beside B I st' go (.cells (B2 gs)))∧(∀ g∈gs,Beside B I st' g.fo (.cells (s4 g.fs)))∧RR=I2 E (valF E n) typ x path ((gs.drop i).map Grp.pr) ks ls Y ∧
  fr=[.ptr B.length 0,.str typ,.agg [.str x.t,.str x.id,.list false (x.ks.map b9),.list false (x.ls.map Val.row)],.list false (l.map Sel.row),.list false (path.map b9),.box [.str x.t,.str x.id,.list false (x.ks.map b9),.list false (x.ls.map Val.row)],.box [.int .u8 0,.int .i64 0,.str [],.list true [],.list true []],.bool false,.ptr st.length 0,v9,f4,f5,v12,f6,f7,w,.int .i64 gs.length,.int .i64 i])
  (m:=gs.length) ⟨0,[],[],s,pv,_,_,_,_,_,_,Aa _,rfl,AK _,AK _,d1,d5,M,L,d2.symm,rfl⟩ ?_
 clear M L d5 d2 d1;rintro mm fr st1 ⟨i,ks,ls,Y,I,v9,f4,f5,v12,f6,f7,hi,rfl,i3,i5,W,b4,M,L,u,rfl⟩;have d3:=b4.at_;unfold E8 at d3;simp only[K39];by_cases z:i < gs.length
 rotate_left
 · rw[List.drop_of_length_le (by omega),AM,I2]at u;simp only[SS,z];refine we ?_;simp only[K39,rA,d3];exact wc ⟨_,_,rfl,I,by rw[u,Val.row_eq]; rfl,u ▸ W⟩
 have v:gs≠[]:=fun e=>by rw[e]at z; cases z
 have e4:=List.getElem_mem z;have g5:=(M v).at_;have h9:=(a1 v).2.2 i z;obtain⟨c1,c2⟩:=c1d z;have C:=L _ e4;obtain⟨N,J⟩:=e6 _ (List.mem_map_of_mem (f:=Grp.pr) e4);rw[List.drop_eq_getElem_cons z,AH]at u;have a9:=k7 (show i+1 < 2 ^ 63 by omega);revert c2 C N J u;generalize gs[i]=g;obtain⟨key,fo,fs⟩:=g;intro u c2 C N J;dsimp only[Grp.pr]at u c2 C N J;obtain⟨k0,f8,a0,h8,f9,g0,f3,g3,b2⟩:∃ k al nm on as ds sub c7,fs=Sel.mk k al nm on as ds sub::c7:=by
  cases fs with
  | nil=>exact absurd rfl N
  | cons s c7=>obtain⟨k,al,nm,on,as,ds,sub⟩:=s; exact⟨_,_,_,_,_,_,_,_,rfl⟩
 have b5:s4 fs=[.int .u8 k0,.str f8,.str a0,.str h8,.list false (f9.map Arg.row),.list false (g0.map Dir.row),.list false (f3.map Sel.row)]++s4 g3:=by rw[b2,← Sel.row_eq]; rfl
 have e7:((0:Int) < (fs.length:Int))=True:=by rw[b2,AY]; simp only[eq_iff_iff,iff_true]; omega
 have g7:a3L fs=a0:=by rw[b2]; rfl
 have d4:=C.at_;rw[b5]at d4;rw[I2,g7]at u;have b1:=W.run.ob;unfold H9 at b1;simp only[K39,rA,rE,z,q2,h9,g5,c1,c2,b1,e7,Nat.zero_mul,d4];refine wa (hE.fld _ W.run.gr typ a0) rfl rfl ?_;rintro _ st1 ⟨rfl,rfl⟩;revert u;cases g6:E.fld typ a0 with
 | none =>intro u;dsimp only at u;rw[Option.getD_none];simp only[K39,rA,rE,FDef.none,FDef.row,Val.none,Val.kind,Val.num,Val.text,Val.names,Val.vals,TRef.nm,TRef.of,TRef.bang,Option.isSome_none,a9];exact wd (m':=gs.length - (i+1)) (by omega) ⟨i+1,ks,ls,Y,I,_,_,_,_,_,_,z,rfl,by omega,by omega,W,b4,M,L,u,rfl⟩
 | some f =>
  intro u;dsimp only at u;rw[Option.getD_some];have i7:=Y.step_le;have i9:=W.steps;have i1:=W.run.le;have i2:=W.few;simp only[K39,rA,rE,FDef.row,Option.isSome_some];refine wa (b9f W.run) rfl rfl ?_;rintro _ st2 ⟨rfl,f0,b8⟩;have c8:=W.trans (b0q W.few f0 b8);by_cases c:Y.step.steps≤5000
  rotate_left
  · rw[if_neg c]at u;simp only[K39,rA,decide_eq_false c];refine wh ?_;simp only[SS];exact wc ⟨_,_,rfl,I,by rw[u,Val.none_row]; rfl,u ▸ c8⟩
  rw[if_pos c]at u;have h4:l5 1 (path.map b9)=true:=a4t path;have g1:((path.map b9).length+1)*16≤2 ^ 47:=by rw[AG]; omega
  have a4:=C.keep b8;have e9:Y.step.ps.length+2≤2*Y.step.steps:=by show Y.ps.length+2≤_; omega
  have Z:=c07 hE h7 f0 (typ:=typ) hx g6 (fs:=fs) (fo:=fo) (key:=key) (path:=path++[key]) ⟨a4.at_,a4.ne,N,J.ok,J.rg,Nat.le_trans J.sz (by omega)⟩ (by simp) (by simp; omega) e9 (by omega);rw[show x.row=[.str x.t,.str x.id,.list false (x.ks.map b9),.list false (x.ls.map Val.row)]from rfl,FDef.row,← b7i]at Z;revert Z u;generalize M3 E (valF E n) typ x f fs (path++[key]) Y.step=r;obtain⟨⟨y,ok⟩,s2⟩:=r;intro u Z;dsimp only at u;simp only[K39,rE,decide_eq_true c];refine wa (a7g path (by omega) st2) rfl rfl ?_;rintro _ st2 ⟨rfl,rfl⟩;simp only[K39,rA,rE,h4,g1];refine wa Z rfl rfl ?_;rintro _ f2 ⟨c6,rfl,b3⟩;dsimp only at b3;have d0:=c8.trans b3;have c0:=b8.trans b3.rk;have U:=b4.keep c0;have d7:=fun v=>(M v).keep c0
  have d6:=fun g hg=>(L g hg).keep c0
  rw[y.row_eta];cases ok with
  | false =>rw[if_neg (by decide)]at u;simp only[K39,rA,rE];refine wh ?_;simp only[SS];exact wc ⟨_,_,rfl,c6,by rw[u,Val.none_row]; rfl,u ▸ d0⟩
  | true =>
   rw[if_pos rfl]at u;have T:=U.at_;have e2:∀ y:Cb.Obj,(f2.set st.length y)[st.length]?=some y:=fun y=>List.getElem?_set_self (AB.1 T).1
   have h5:l5 1 (ks.map b9)=true:=a4t ks;have h6:l5 5 (ls.map Val.row)=true:=a0n ls;have gk:((ks.map b9).length+1)*16≤2 ^ 47:=by rw[AG]; omega
   have gl:((ls.map Val.row).length+1)*80≤2 ^ 47:=by rw[AG]; omega
   have b0:=d0.other h3 (AK st.length) (U.ne.2) (E8 (ks++[key]) (ls++[y]));have a2:E8 (ks++[key]) (ls++[y])=.cells [.int .u8 6,.int .i64 0,.str [],.list true (ks.map b9++[[.str key]]),.list true (ls.map Val.row++[[.int .u8 y.kind,.int .i64 y.num,.str y.text,.list false (y.names.map b9),.list false (y.vals.map Val.row)]])]:=by unfold E8;rw[AW,AW,AH,AM,AH,AM,y.row_eta];rfl
   have a7:Beside B c6 (f2.set st.length (E8 (ks++[key]) (ls++[y]))) st.length (E8 (ks++[key]) (ls++[y])):=U.put;have a6:=fun v=>(d7 v).other (y:=E8 (ks++[key]) (ls++[y])) (h2 v)
   have a5:=fun g hg=>(d6 g hg).other (y:=E8 (ks++[key]) (ls++[y])) (h0 g hg)
   unfold E8 at T;rw[a2]at b0 a7 a6 a5;simp only[K39,rA,rL,rE,T,c7A,e2,h5,h6,gk,gl,List.set_set,a9];exact wd (m':=gs.length - (i+1)) (by omega) ⟨i+1,ks++[key],ls++[y],s2,c6,_,_,_,_,_,_,z,rfl,by simp; omega,by simp; omega,b0,by rw[a2]; exact a7,a6,a5,u,rfl⟩
end Go.Cb.CodeA
namespace Go.Cb.CodeA
open Go Go.Cb
attribute [local congr] g9 j3 j4 j5 i8 j0 j8 j9 V.runR_congr
theorem a5c:∀ {es:List Ent},F5 es→∀ e∈es,F4 es e.id=some e
 | [],_,e,h=>by cases h
 | x::es,hs,e,h=>by
  obtain⟨l,t⟩:=List.pairwise_cons.1 hs;rcases List.mem_cons.1 h with rfl|h
  · obtain⟨p1,p2⟩:=b37 (a4m e.id) es;rw[F4,p1,p2,R2,if_pos rfl];rfl
  · obtain⟨p1,p2⟩:=b4v (l e h) es;have u:=a5c t e h;rw[F4,p1,p2,List.getElem?_cons_succ];exact u
end Go.Cb.CodeA
