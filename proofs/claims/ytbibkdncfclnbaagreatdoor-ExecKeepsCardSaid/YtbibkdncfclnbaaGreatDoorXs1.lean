import Derived.Test.YtbibkdncfclnbaaGreatDoorC6
set_option maxRecDepth 20000
set_option linter.all false
namespace Go.Cb.CodeA
open Go Go.Cb
open Nat renaming reduceAdd→rA,reduceSub→rS,reduceLeDiff→rL,reduceEqDiff→rE
attribute [local congr] g9 j4 j6 j5 i8 j0 j9 j8 V.runR_congr
structure Ent where
 t:List Nat
 id:List Nat
 ks:List (List Nat)
 ls:List Val
def Ent.row (e:Ent):List AV:=[.str e.t,.str e.id,.list false (e.ks.map d8),.list false (e.ls.map Val.row)]
def TB:Nat:=2 ^ 47
def Small (v:Val):Prop:=∃ k n s ls,v=.mk k n s [] ls∧((k≠6∧s.length≤TB)∧(k≠5→ls=[]))∧ls.length≤6∧∀ u∈ls,∃ k n s,u=.mk k n s [] []∧k≠6∧s.length≤TB
structure Ent.Good (e:Ent):Prop where
 kl:e.ks.length=e.ls.length
 le:e.ks.length≤6
 sm:∀ v∈e.ls,Small v
theorem a0G {ls:List Val} {i:Nat} (h:i < ls.length):(ls.map Val.row)[i]?=some (ls[i]).row:=by rw[AU,AE h]; rfl
theorem a0I {ks:List (List Nat)} {i:Nat} (h:i < ks.length):(ks.map d8)[i]?=some [.str ks[i]]:=by rw[AU,AE h]; rfl
theorem a4k (ks:List (List Nat)):k9 1 (ks.map d8)=true:=D6 fun r e=>by obtain⟨x,_,rfl⟩:=List.mem_map.1 e;rfl
theorem z2:((2:Int)=0)=False:=by simp
theorem z4:((4:Int)=0)=False:=by simp
theorem z5:((5:Int)=0)=False:=by simp
theorem z7:((7:Int)=0)=False:=by simp
theorem z8:((8:Int)=0)=False:=by simp
theorem z16:((16:Int)=0)=False:=by simp
theorem c1P {t d n:Int} {s:List Nat} {own:Bool} {refs:List (List AV)} {lack:Int} (e:Ent) (O:e.Good) (o1 o2:Bool) (v0 v3 v5 v6 v7 v8 v9 L Z v12 a0 a1 M N:AV) (st:St) :
 WC (fun k=>j1 (k7 tbl k) k a3D [v0,.box [.int .u8 t,.int .u8 d,.int .i32 n,.str s,.list own refs,.int .u8 lack],.box [.str [],.str [],.list true [],.list true []],v3,.box [.str e.t,.str e.id,.list o1 (e.ks.map d8),.list o2 (e.ls.map Val.row)],v5,v6,v7,v8,v9,L,Z,v12,a0,a1,M,N] st)
  (fun o=>∃ r st',Go.Cb.finK [.bx 2 true 4] (some o)=some (r,st')∧st'=st∧∃ e':Ent,r=.agg e'.row∧e'.Good∧e'.id=e.id∧e'.t=e.t):=by
 have a3:=O.kl;have a4:=O.le;simp +contextual only [K25,rE,z5,AG];refine wi (fun h=>?_) (fun h=>?_)
 · have I:1 < e.ks.length:=by
    have h2:ltI 1 (e.ks.length:Int)=true:=by
     rcases e8 (ltI 1 (e.ks.length:Int))with h2|h2
     · exact h2
     · rw[h2,Bool.and_false]at h; cases h
    rw[ltI_eq]at h2;have:=of_decide_eq_true h2;omega
   have W:((e.ks.length:Int)=0)=False:=by simp; intro hh; rw[hh]at I; simp at I
   simp only[K25,rE,z5,AG,W];refine wg (fun mm fr st'=>st'=st∧∃ (i:Nat) (T:Int) (K:List (List Nat)) (C:List Val),i≤e.ks.length∧mm=e.ks.length - i∧K.length=C.length∧K.length≤i∧(∀ v∈C,v∈e.ls)∧fr=[v0,.box [.int .u8 t,.int .u8 d,.int .i32 n,.str s,.list own refs,.int .u8 lack],.box [.str [],.str [],.list true [],.list true []],v3,.box [.str e.t,.str e.id,.list o1 (e.ks.map d8),.list o2 (e.ls.map Val.row)],v5,v6,v7,v8,v9,L,.int .i64 T,.list true (K.map d8),.list true (C.map Val.row),.int .i64 i,M,N]) (m:=e.ks.length) ⟨rfl,0,_,[],[],Aa _,rfl,rfl,AK _,by simp,rfl⟩ ?_;rintro mm fr st' ⟨rfl,i,T,K,C,hi,rfl,J,a2,z,rfl⟩;simp only[K25,rE,AG];by_cases y:i < e.ks.length
   · have U:=a0I y;have e2:=a0G (ls:=e.ls) (i:=i) (by omega);have Y:=List.getElem_mem (l:=e.ls) (n:=i) (by omega);revert U e2 Y;generalize e.ks[i]=x;generalize e.ls[i]=v;intro U e2 Y;obtain⟨k1,n1,s1,a5,a6,er⟩:=v.row_cells;rw[er]at e2;simp only[K25,rE,y];refine wi (fun h=>?_) (fun h=>?_)
     · simp only[K25,rA,rE,U,e2,W2,a0e,AG,k8 (show i+1 < 2 ^ 63 by omega),show(K.length+1)*16≤2 ^ 47 by omega,show(C.length+1)*80≤2 ^ 47 by omega];refine wd (m':=e.ks.length - (i+1)) (by omega) ⟨rfl,i+1,T,K++[x],C++[v],y,rfl,by simp[J],by simp; omega,fun u hu=>?_,by rw[AW,AW,← er]; rfl⟩
       rcases AQ.1 hu with hu|hu
       · exact z u hu
       · rw[List.mem_singleton.1 hu]; exact Y
     · simp only[K25,rE,k8 (show i+1 < 2 ^ 63 by omega)];exact wd (m':=e.ks.length - (i+1)) (by omega) ⟨rfl,i+1,T,K,C,y,rfl,J,by omega,z,rfl⟩
   · simp only[SS,y];refine we ?_;simp only[K25,rA,rL,rE];refine wc ⟨_,_,rfl,rfl,⟨e.t,e.id,K,C⟩,rfl,⟨J,show K.length≤6 by omega,fun v hv=>O.sm v (z v hv)⟩,rfl,rfl⟩
 · simp only[K25,rA];exact wc ⟨_,_,rfl,rfl,e,rfl,O,rfl,rfl⟩
def idsL:List (List Nat):=[[97],[98],[99],[100],[101],[49,48],[57],[]]
def idS (d:Int):List Nat:=idsL.getD (d.tmod 8).toNat []
theorem b8E {d:Int} (l:0≤d):([[.str [97]],[.str [98]],[.str [99]],[.str [100]],[.str [101]],[.str [49,48]],[.str [57]],[.str []]]:List (List AV))[(d.tmod 8).toNat]?=some [.str (idS d)]:=by
 unfold idS;have u:0≤d.tmod 8:=Int.tmod_nonneg 8 l;have v:d.tmod 8 < 8:=Int.tmod_lt_of_pos d (by decide);obtain⟨k,t⟩:∃ k:Nat,d.tmod 8=k:=⟨(d.tmod 8).toNat,by omega⟩
 rw[t,Int.toNat_natCast];have e:k < 8:=by omega
 match k,e with
 | 0,_=>rfl
 | 1,_=>rfl
 | 2,_=>rfl
 | 3,_=>rfl
 | 4,_=>rfl
 | 5,_=>rfl
 | 6,_=>rfl
 | 7,_=>rfl
structure Thg where
 t:Int
 d:Int
 n:Int
 s:List Nat
 refs:List Int
 lack:Int
def a1O (r:Int):List AV:=[.int .u8 r]
def Thg.row (x:Thg):List AV:=[.int .u8 x.t,.int .u8 x.d,.int .i32 x.n,.str x.s,.list false (x.refs.map a1O),.int .u8 x.lack]
structure Thg.OK (x:Thg):Prop where
 d:0≤x.d
 refs:∀ r∈x.refs,0≤r
 n:-9223372036854775808≤x.n∧x.n < 9223372036854775808
 s:x.s.length≤TB
def personK:List (List Nat):=[[97,103,101],[102,114,105,101,110,100,115],[109,111,111,100],[110,97,109,101],[112,101,116],[116,97,103,115]]
def catK:List (List Nat):=[[108,105,118,101,115],[110,97,109,101],[111,119,110,101,114]]
def dogK:List (List Nat):=[[98,97,114,107,115]]
theorem Val.row0 (k n:Int) (s:List Nat):(Val.mk k n s [] []).row=[.int .u8 k,.int .i64 n,.str s,.list false [],.list false []]:=by rw[Val.row_eq]; rfl
theorem Val.rowL (k n:Int) (s:List Nat) (ls:List Val):(Val.mk k n s [] ls).row=[.int .u8 k,.int .i64 n,.str s,.list false [],.list false (ls.map Val.row)]:=by rw[Val.row_eq]; rfl
theorem a1i {k n:Int} {s:List Nat} (h:k≠6∧s.length≤TB):Small (.mk k n s [] []):=⟨k,n,s,[],rfl,⟨h,fun _=>rfl⟩,by decide,by simp⟩
def a5T (nm:Int) (e:List Val) (md:List Nat) (tk tn:Int) (ts:List Nat) (ok:Int) (os:List Nat):List Val:=[.mk 1 nm [] [] [],.mk 5 0 [] [] e,.mk 4 0 md [] [],.mk tk tn ts [] [],.mk ok 0 os [] [],.mk 5 0 [] [] [.mk tk tn ts [] [],.mk 0 0 [] [] []]]
theorem b3f {nm:Int} {l:List Val} {md:List Nat} {tk tn:Int} {ts:List Nat} {ok:Int} {os t id:List Nat} (e:tk≠6∧ts.length≤TB) (y:ok≠6∧os.length≤TB) (x:md.length≤TB) (hL:l.length≤6∧∀ u∈l,∃ k n s,u=.mk k n s [] []∧k≠6∧s.length≤TB):(⟨t,id,personK,a5T nm l md tk tn ts ok os⟩:Ent).Good:=by
 refine⟨rfl,show personK.length≤6 by decide,fun v z=>?_⟩;simp only[a5T,List.mem_cons,List.not_mem_nil,or_false]at z;rcases z with rfl|rfl|rfl|rfl|rfl|rfl
 · exact a1i ⟨by decide,by decide⟩
 · exact⟨_,_,_,_,rfl,⟨⟨by decide,by decide⟩,fun h=>absurd rfl h⟩,hL.1,hL.2⟩
 · exact a1i ⟨by decide,x⟩
 · exact a1i e
 · exact a1i y
 · refine⟨_,_,_,_,rfl,⟨⟨by decide,by decide⟩,fun h=>absurd rfl h⟩,by simp,fun u hu=>?_⟩;simp only[List.mem_cons,List.not_mem_nil,or_false]at hu;rcases hu with rfl|rfl
   · exact⟨_,_,_,rfl,e⟩
   · exact⟨_,_,_,rfl,by decide,by decide⟩
theorem b3w {t d n:Int} {s:List Nat} {own:Bool} {refs:List (List AV)} {lack:Int} (id:List Nat) (tk tn nm ok:Int) (ts os:List Nat) (M:List Val) (T:tk≠6∧ts.length≤TB) (O:ok≠6∧os.length≤TB) (hL:M.length≤6∧∀ u∈M,∃ k n s,u=.mk k n s [] []∧k≠6∧s.length≤TB) (b1 b2 b3 b4 b5 b6:Bool) (v0 v3 v9:AV) (st:St) :
 WC (fun k=>j1 (k7 tbl k) k a8D [v0,.box [.int .u8 t,.int .u8 d,.int .i32 n,.str s,.list own refs,.int .u8 lack],.box [.str [],.str [],.list true [],.list true []],v3,.box [.str [],.str id,.list true [],.list true []],
  .box [.int .u8 tk,.int .i64 tn,.str ts,.list b1 [],.list b2 []],.box [.int .u8 1,.int .i64 nm,.str [],.list true [],.list true []],.box [.int .u8 5,.int .i64 0,.str [],.list b3 [],.list b4 (M.map Val.row)],.box [.int .u8 ok,.int .i64 0,.str os,.list b5 [],.list b6 []],v9,.undef,.undef,.undef,.undef,.undef,.undef,.undef] st)
  (fun o=>∃ r st',Go.Cb.finK [.bx 2 true 4] (some o)=some (r,st')∧st'=st∧∃ e':Ent,r=.agg e'.row∧e'.Good∧e'.id=id):=by
 have fin:∀ (e:Ent) (hg:e.Good) (he:e.id=id) (ks ls:List (List AV)) (h1:ks=e.ks.map d8) (h2:ls=e.ls.map Val.row) (o1 o2:Bool) (w0 w3 w5 w6 w7 w8 w9 x y z C I J L:AV),WC (fun k=>j1 (k7 tbl k) k a3D [w0,.box [.int .u8 t,.int .u8 d,.int .i32 n,.str s,.list own refs,.int .u8 lack],.box [.str [],.str [],.list true [],.list true []],w3,.box [.str e.t,.str id,.list o1 ks,.list o2 ls],w5,w6,w7,w8,w9,x,y,z,C,I,J,L] st)
  (fun o=>∃ r st',Go.Cb.finK [.bx 2 true 4] (some o)=some (r,st')∧st'=st∧∃ e':Ent,r=.agg e'.row∧e'.Good∧e'.id=id):=by
  intro e hg he ks ls h1 h2 o1 o2 w0 w3 w5 w6 w7 w8 w9 x y z C I J L;subst h1; subst h2; subst he;exact(c1P e hg o1 o2 w0 w3 w5 w6 w7 w8 w9 x y z C I J L st).mono fun o ⟨r,st',h1,h2,e',h3,h4,h5,_⟩=>⟨r,st',h1,h2,e',h3,h4,h5⟩
 have l:∀ (md:List Nat) (N:md.length≤TB) (v9 W v12 Y Z a0 a1:AV) (b7 b8:Bool),WC (fun k=>j1 (k7 tbl k) k a3D [v0,.box [.int .u8 t,.int .u8 d,.int .i32 n,.str s,.list own refs,.int .u8 lack],.box [.str [],.str [],.list true [],.list true []],v3,.box [.str [80,101,114,115,111,110],.str id,.list true [[.str [97,103,101]],[.str [102,114,105,101,110,100,115]],[.str [109,111,111,100]],[.str [110,97,109,101]],[.str [112,101,116]],[.str [116,97,103,115]]],.list true [[.int .u8 1,.int .i64 nm,.str [],.list false [],.list false []],[.int .u8 5,.int .i64 0,.str [],.list false [],.list false (M.map Val.row)],[.int .u8 4,.int .i64 0,.str md,.list false [],.list false []],[.int .u8 tk,.int .i64 tn,.str ts,.list false [],.list false []],[.int .u8 ok,.int .i64 0,.str os,.list false [],.list false []],[.int .u8 5,.int .i64 0,.str [],.list false [],.list false [[.int .u8 tk,.int .i64 tn,.str ts,.list false [],.list false []],[.int .u8 0,.int .i64 0,.str [],.list false [],.list false []]]]]],
  .box [.int .u8 tk,.int .i64 tn,.str ts,.list b1 [],.list b2 []],.box [.int .u8 1,.int .i64 nm,.str [],.list true [],.list true []],.box [.int .u8 5,.int .i64 0,.str [],.list b3 [],.list b4 (M.map Val.row)],.box [.int .u8 ok,.int .i64 0,.str os,.list b5 [],.list b6 []],v9,.box [.int .u8 4,.int .i64 0,.str md,.list b7 [],.list b8 []],W,v12,Y,Z,a0,a1] st)
  (fun o=>∃ r st',Go.Cb.finK [.bx 2 true 4] (some o)=some (r,st')∧st'=st∧∃ e':Ent,r=.agg e'.row∧e'.Good∧e'.id=id):=fun md N v9 W v12 Y Z a0 a1 b7 b8=>by
  refine fin ⟨[80,101,114,115,111,110],id,personK,a5T nm M md tk tn ts ok os⟩ (b3f T O N hL) rfl _ _ rfl ?_ true true v0 v3 _ _ _ _ _ _ _ _ _ _ _ _;simp only[a5T,AH,AM,Val.rowL]
 simp (maxSteps:=1000000) (contextual:=true) (implicitDefEqProofs:=false) only [Z4,rE,b3m,z4];rcases e8 (eqI (t.tmod 4) 0)with h0|h0
 · simp (maxSteps:=1000000) (contextual:=true) (implicitDefEqProofs:=false) only [Z4,rA,rL,rE,h0,Nat.reduceLT,z7];refine wi (fun h7=>?_) (fun h7=>?_)
   · simp (maxSteps:=1000000) (contextual:=true) (implicitDefEqProofs:=false) only [Z4,rA,rL,rE,Nat.reduceLT];exact l _ (by decide) _ _ _ _ _ _ _ _ _
   · simp (maxSteps:=1000000) (contextual:=true) (implicitDefEqProofs:=false) only [Z4,rA,rL,rE,Nat.reduceLT];exact l _ (by decide) _ _ _ _ _ _ _ _ _
 rcases e8 (eqI (t.tmod 4) 1)with h1|h1
 · simp (maxSteps:=1000000) (contextual:=true) (implicitDefEqProofs:=false) only [Z4,rA,rL,rE,h0,h1,Nat.reduceLT,z7];refine wi (fun h7=>?_) (fun h7=>?_)
   · simp (maxSteps:=1000000) (contextual:=true) (implicitDefEqProofs:=false) only [Z4,rA,rL,rE,Nat.reduceLT];exact l _ (by decide) _ _ _ _ _ _ _ _ _
   · simp (maxSteps:=1000000) (contextual:=true) (implicitDefEqProofs:=false) only [Z4,rA,rL,rE,Nat.reduceLT];exact l _ (by decide) _ _ _ _ _ _ _ _ _
 rcases e8 (eqI (t.tmod 4) 2)with h2|h2
 · simp (maxSteps:=1000000) (contextual:=true) (implicitDefEqProofs:=false) only [Z4,rA,rL,rE,h0,h1,h2];refine fin ⟨[67,97,116],id,catK,[.mk 1 nm [] [] [],.mk tk tn ts [] [],.mk ok 0 os [] []]⟩ ⟨rfl,show catK.length≤6 by decide,fun v U=>?_⟩ rfl _ _ rfl ?_ true true _ _ _ _ _ _ _ _ _ _ _ _ _ _
   · simp only[List.mem_cons,List.not_mem_nil,or_false]at U;rcases U with rfl|rfl|rfl
     · exact a1i ⟨by decide,by decide⟩
     · exact a1i T
     · exact a1i O
   · simp only[AH,AM,Val.rowL]
 · simp (maxSteps:=1000000) (contextual:=true) (implicitDefEqProofs:=false) only [Z4,rA,rL,rE,h0,h1,h2,z2];refine fin ⟨[68,111,103],id,dogK,[.mk 3 (n4 .i64 (lack.tmod 2)) [] [] []]⟩ ⟨rfl,show dogK.length≤6 by decide,fun v U=>?_⟩ rfl _ _ rfl ?_ true true _ _ _ _ _ _ _ _ _ _ _ _ _ _
   · simp only[List.mem_cons,List.not_mem_nil,or_false]at U;rw[U];exact a1i ⟨by decide,by decide⟩
   · simp only[AH,AM,Val.rowL]
theorem b37 (d:Int):(idS d).length≤TB:=by
 have h:∀ i,(idsL.getD i []).length≤2:=fun i=>by
  rcases Nat.lt_or_ge i 8 with h|h
  · rcases i with _|_|_|_|_|_|_|_|i<;>first|decide|omega
  · rw[List.getD_eq_getElem?_getD,List.getElem?_eq_none (show idsL.length≤i from h)]; decide
 exact Nat.le_trans (h _) (by decide)
theorem c0N {x:Thg} (hx:x.OK) (st:St):EvQ tbl 25 [.agg x.row] st (fun a st'=>st'=st∧∃ e:Ent,a=.agg e.row∧e.Good∧e.id=idS x.d):=by
 obtain⟨t,d,n,s,refs,lack⟩:=x;obtain⟨M,hr,O,J⟩:=hx;dsimp only at M hr O J;have hid:=b8E M;have N:0≤d.tmod 8:=Int.tmod_nonneg 8 M;unfold Thg.row;refine wj (fn:=a25) rfl rfl rfl ?_;simp (maxSteps:=1000000) (contextual:=true) (implicitDefEqProofs:=false) only [Z4,rA,rS,rL,rE,Nat.reduceLT,z8,hid,N,R2 O.1 O.2];refine wg (fun mm fr st'=>st'=st∧∃ (i:Nat) (l:List Val) (ok:Int) (os:List Nat) (W b4 Y Z:Bool),i≤6∧mm=6 - i∧l.length≤i∧(∀ u∈l,∃ k n s,u=.mk k n s [] []∧k≠6∧s.length≤TB)∧(ok≠6∧os.length≤TB)∧fr=[.agg [.int .u8 t,.int .u8 d,.int .i32 n,.str s,.list false (refs.map a1O),.int .u8 lack],.box [.int .u8 t,.int .u8 d,.int .i32 n,.str s,.list false (refs.map a1O),.int .u8 lack],.box [.str [],.str [],.list true [],.list true []],.list true [[.str [97]],[.str [98]],[.str [99]],[.str [100]],[.str [101]],[.str [49,48]],[.str [57]],[.str []]],.box [.str [],.str (idS d),.list true [],.list true []],
  .box [.int .u8 2,.int .i64 0,.str s,.list true [],.list true []],.box [.int .u8 1,.int .i64 n,.str [],.list true [],.list true []],.box [.int .u8 5,.int .i64 0,.str [],.list W [],.list true (l.map Val.row)],.box [.int .u8 ok,.int .i64 0,.str os,.list Y [],.list Z []],.int .i64 i,.undef,.undef,.undef,.undef,.undef,.undef,.undef]) (m:=6) ⟨rfl,0,[],_,_,_,true,_,_,by decide,rfl,by simp,by simp,⟨by decide,by decide⟩,rfl⟩ ?_
 rintro mm fr st' ⟨rfl,i,l,ok,os,W,b4,Y,Z,hi,rfl,a0,z,I,rfl⟩;simp only[Z4,rE,AG];rcases e8 (decide (i < refs.length) && ltI (i:Int) 6)with hc|hc
 · have C:i < refs.length:=by rw[AA]at hc;exact of_decide_eq_true hc.1
   have a1:i < 6:=by rw[AA,ltI_eq]at hc;have:=of_decide_eq_true hc.2;omega
   have L:(refs.map a1O)[i]?=some [.int .u8 refs[i]]:=by rw[AU,AE C]; rfl
   have v:=hr _ (List.getElem_mem C);revert L v;generalize refs[i]=r;intro L v;have T:=b8E v;have U:0≤r.tmod 8:=Int.tmod_nonneg 8 v;simp (maxSteps:=1000000) (contextual:=true) (implicitDefEqProofs:=false) only [Z4,rA,rL,rE,hc,L,T,U,z8,a0e,AG,k8 (show i+1 < 2 ^ 63 by omega),show(l.length+1)*80≤2 ^ 47 by omega];refine wd (m':=6 - (i+1)) (by omega) ⟨rfl,i+1,l++[.mk 8 0 (idS r) [] []],8,_,_,true,_,_,by omega,rfl,by simp; omega,fun u hu=>?_,⟨by decide,b37 r⟩,by rw[AW,AH,AM,Val.row0]⟩
   rcases AQ.1 hu with hu|hu
   · exact z u hu
   · exact⟨_,_,_,List.mem_singleton.1 hu,by decide,b37 r⟩
 · simp (maxSteps:=1000000) (contextual:=true) (implicitDefEqProofs:=false) only [SS,hc];refine we ?_;simp (maxSteps:=1000000) (contextual:=true) (implicitDefEqProofs:=false) only [Z4,rE,z16];have y:l.length≤6∧∀ u∈l,∃ k n s,u=Val.mk k n s [] []∧k≠6∧s.length≤TB:=⟨by omega,z⟩
   refine wi (fun h7=>?_) (fun h7=>?_)
   · simp (maxSteps:=1000000) (contextual:=true) (implicitDefEqProofs:=false) only [Z4,rA];exact b3w (idS d) 1 n n ok [] os l ⟨by decide,by decide⟩ I y _ _ _ _ _ _ _ _ _ _
   · simp (maxSteps:=1000000) (contextual:=true) (implicitDefEqProofs:=false) only [SS];exact b3w (idS d) 2 0 n ok s os l ⟨by decide,J⟩ I y _ _ _ _ _ _ _ _ _ _
theorem b3r (a b:List Nat):eqN a b=true↔a=b:=by rw[a3L]; simp
theorem U8 (a:List Nat):eqN a a=true:=(b3r a a).2 rfl
theorem b11:∀ a b:List Nat,p8 a b=false→p8 b a=false→a=b
 | [],[],_,_=>rfl
 | [],b::y,h,_=>by simp[p8]at h
 | a::x,[],_,h=>by simp[p8]at h
 | a::x,b::y,e,l=>by
  simp only[p8,Bool.or_eq_false_iff,Bool.and_eq_false_iff]at e l;obtain⟨e,h3⟩:=e;obtain⟨l,h4⟩:=l;have u:¬ a < b:=fun h=>by
   have:Nat.blt a b=true:=by simpa[Nat.blt_eq]using h
   rw[this]at e; cases e
  have e2:¬ b < a:=fun h=>by
   have:Nat.blt b a=true:=by simpa[Nat.blt_eq]using h
   rw[this]at l; cases l
  obtain rfl:a=b:=by omega
  have t:Nat.beq a a=true:=by simp
  rw[t]at h3 h4;rcases h3 with h3|h3
  · cases h3
  rcases h4 with h4|h4
  · cases h4
  rw[b11 x y h3 h4]
theorem a1N:∀ a b c:List Nat,p8 a b=true→p8 b c=true→p8 a c=true
 | _,[],_,h,_=>by simp[p8]at h
 | _,_::_,[],_,h=>by simp[p8]at h
 | [],_::_,_::_,_,_=>rfl
 | a::x,b::y,c::z,l,e=>by
  simp only[p8,Bool.or_eq_true,AA,Nat.blt_eq,Nat.beq_eq]at l e ⊢;rcases l with l|⟨l,t⟩
  · rcases e with e|⟨e,_⟩
    · left; omega
    · left; omega
  · rcases e with e|⟨e,u⟩
    · left; omega
    · right; exact⟨by omega,a1N x y z t u⟩
def m3 (es:List Ent):List AV:=es.flatMap Ent.row
theorem a27 (es:List Ent):∀ i,(m3 es).drop (i*4)=m3 (es.drop i):=by
 induction es with
 | nil=>intro i; simp[m3]
 | cons e es l =>
  intro i;cases i with
  | zero=>rw[Nat.zero_mul,List.drop_zero,List.drop_zero]
  | succ i =>rw[List.drop_succ_cons,← l i,show(i+1)*4=i*4+4 by omega,← List.drop_drop,show m3 (e::es)=e.row++m3 es from rfl];rw[List.drop_drop,show i*4+4=4+i*4 by omega,← List.drop_drop];rfl
theorem a1L (es:List Ent):(m3 es).length=es.length*4:=by
 induction es with
 | nil=>rfl
 | cons e es l=>rw[show m3 (e::es)=e.row++m3 es from rfl,AF,l,AY]; simp[Ent.row]; omega
theorem a7p (a b:List Ent):m3 (a++b)=m3 a++m3 b:=by simp[m3]
theorem a9s {es:List Ent} {i:Nat} (h:i < es.length):l8 true 4 ((m3 es).drop (i*4))=some (.agg es[i].row):=by rw[a27,List.drop_eq_getElem_cons h];rfl
def EntsAt (v:AV) (es:List Ent) (st:St):Prop:=(v=.nils∧es=[])∨∃ o,v=.sl o 0 es.length 4∧st[o]?=some (.cells (m3 es))
theorem c1J (l:List Thg) (h:∀ x∈l,x.OK) (st:St):EvQ tbl 15 [.list false (l.map Thg.row)] st (fun a st'=>st'=st∧∃ es:List Ent,a=.list false (es.map Ent.row)∧es.length≤12∧∀ e∈es,e.Good):=by
 refine wj (fn:=a15) rfl rfl rfl ?_;simp only[K15,rS];refine wg (fun M fr st'=>st'=st∧∃ (i:Nat) (es:List Ent),i≤12∧M=12 - i∧es.length≤i∧(∀ e∈es,e.Good)∧fr=[.list false (l.map Thg.row),.list true [],.list true (es.map Ent.row),.int .i64 i]) (m:=12) ⟨rfl,0,[],by decide,rfl,by simp,by simp,rfl⟩ ?_;rintro M fr st' ⟨rfl,i,es,hi,rfl,U,J,rfl⟩;simp only[K15,rE,AG];rcases e8 (decide (i < l.length) && ltI (i:Int) 12)with hc|hc
 · have y:i < l.length:=by rw[AA]at hc;exact of_decide_eq_true hc.1
   have T:i < 12:=by rw[AA,ltI_eq]at hc;have:=of_decide_eq_true hc.2;omega
   have z:(l.map Thg.row)[i]?=some l[i].row:=by rw[AU,AE y]; rfl
   have I:=h _ (List.getElem_mem y);revert z I;generalize l[i]=x;intro z I;have L:=c0N I st';have ex:x.row=[.int .u8 x.t,.int .u8 x.d,.int .i32 x.n,.str x.s,.list false (x.refs.map a1O),.int .u8 x.lack]:=rfl;rw[ex]at z L;simp +contextual only [K15,rA,rE,hc,z];refine wa L rfl rfl ?_;rintro _ _ ⟨rfl,e,rfl,O,_⟩;have C:k9 4 (es.map Ent.row)=true:=D6 fun r W=>by obtain⟨v,_,rfl⟩:=List.mem_map.1 W;rfl
   have N:e.row=[.str e.t,.str e.id,.list false (e.ks.map d8),.list false (e.ls.map Val.row)]:=rfl;rw[N];simp only[K15,rA,rE,C,AG,k8 (show i+1 < 2 ^ 63 by omega),show(es.length+1)*80≤2 ^ 47 by omega];refine wd (m':=12 - (i+1)) (by omega) ⟨rfl,i+1,es++[e],by omega,rfl,by simp; omega,fun u hu=>?_,by rw[AW]; rfl⟩
   rcases AQ.1 hu with hu|hu
   · exact J u hu
   · rw[List.mem_singleton.1 hu]; exact O
 · simp +contextual only [SS,hc];refine we ?_;simp only[K15];exact wc ⟨_,_,rfl,rfl,es,rfl,by omega,J⟩
theorem c0S (a b:List Nat):n9 .gtr (.str a) (.str b)=some (.bool !(p8 a b || eqN a b)):=a8 rfl
theorem Ent.row_w (e:Ent):List.map AV.weak1 e.row=e.row:=rfl
def a6y (a b:List Nat):Int:=if p8 a b then -1 else if eqN a b then 0 else 1
theorem c2S (e:Ent) (id:List Nat) (st:St):EvQ tbl 93 [.agg e.row,.str id] st (fun a st'=>st'=st∧a=.int .i64 (a6y e.id id)):=by
 have l:e.row=[.str e.t,.str e.id,.list false (e.ks.map d8),.list false (e.ls.map Val.row)]:=rfl;rw[l];refine wj (fn:=a93) rfl rfl rfl ?_;simp only[K93,rS,rE];rcases e8 (p8 e.id id)with h|h
 · simp only[K93,h];exact wc ⟨_,_,rfl,rfl,by rw[a6y,if_pos h]; rfl⟩
 rcases e8 (eqN e.id id)with h2|h2
 · simp only[K93,rE,h,h2,c0S];exact wc ⟨_,_,rfl,rfl,by rw[a6y,h,if_neg (by decide),if_pos h2]; rfl⟩
 · simp only[K93,rE,h,h2,c0S];exact wc ⟨_,_,rfl,rfl,by rw[a6y,h,if_neg (by decide),h2,if_neg (by decide)]; rfl⟩
abbrev T3 (es:List Ent):Prop:=es.Pairwise fun a b=>p8 a.id b.id=true
def D8 (id:List Nat):List Ent→Nat
 | []=>0
 | e::es=>if p8 e.id id then D8 id es+1 else 0
def Q7 (id:List Nat) (es:List Ent):Bool:=match es[D8 id es]? with
 | some e=>eqN e.id id
 | none=>false
theorem b4i (id:List Nat):∀ es:List Ent,D8 id es≤es.length
 | []=>AK _
 | e::es=>by
  rw[D8];split
  · have:=b4i id es; rw[AY]; omega
  · omega
theorem b3B (id:List Nat):∀ (es:List Ent) (i:Nat),i≤es.length→(∀ k (h:k < es.length),k < i→p8 es[k].id id=true)→(∀ h:i < es.length,p8 es[i].id id=false)→D8 id es=i
 | [],i,h,_,_=>by simp at h; subst h; rfl
 | e::es,0,_,_,h2=>by rw[D8,show p8 e.id id=false from h2 (by simp)]; rfl
 | e::es,i+1,h,h1,h2=>by have l:p8 e.id id=true:=h1 0 (by simp) (by omega);rw[D8,if_pos l];rw[b3B id es i (by simpa using h) (fun k t u=>h1 (k+1) (by simpa using t) (by omega)) (fun hi=>h2 (by simpa using hi))]
theorem a2s {es:List Ent} {o:Nat} {st:St} (h:st[o]?=some (.cells (m3 es))) {i:Nat} (hi:i < es.length) (call:b9) (bx:AV):J0 true 4 call [.ptr o (i*4)] bx st=some (.agg es[i].row,bx,st):=by rw[R.ldAn_ptr,h];dsimp only;rw[a9s hi];rfl
theorem d1M {i j:Nat} (h:i+j < 2 ^ 62):n4 .i64 (Int.fdiv (n4 .u64 (n4 .i64 (a2W (i:Int) (j:Int)))) 2)=(((i+j) / 2:Nat):Int):=by
 have l:n4 .i64 ((i:Int)+(j:Int))=(i:Int)+(j:Int):=R2 (by omega) (by omega);rw[addI_eq,l];have:n4 .u64 ((i:Int)+(j:Int))=(i:Int)+(j:Int):=by rw[Q1];simp only[IntKind.wrap,IntKind.signed,IntKind.bits,Bool.false_and,Bool.false_eq_true,if_false];omega
 rw[this];have e:Int.fdiv ((i:Int)+(j:Int)) 2=(((i+j) / 2:Nat):Int):=by rw[Int.fdiv_eq_ediv_of_nonneg _ (by omega)];omega
 rw[e,R2 (by omega) (by omega)]
theorem d3B (a:Int):n9 .shr (.int .u64 a) (.int .u64 1)=some (.int .u64 (Int.fdiv a 2)):=by
 have:(2:Int) ^ (min (1:Int).toNat IntKind.u64.bits)=2:=by decide
 simp only[n9];rw[this];rfl
theorem b9F {es:List Ent} {v:AV} {st:St} (h:EntsAt v es st) (hs:T3 es) (hl:es.length≤100000) (id:List Nat):EvQ tbl 92 [v,.str id,.func 93 [] []] st (fun a st'=>st'=st∧a=.tuple [.int .i64 (D8 id es),.bool (Q7 id es)]):=by
 rcases h with⟨rfl,rfl⟩|⟨o,rfl,ho⟩
 · refine wj (fn:=a92) rfl rfl rfl ?_;simp only[K92,rS,rE];refine wg (fun U fr st'=>st'=st∧fr=[.nils,.str id,.func 93 [] [],.int .i64 0,.bool false,.int .i64 0,.int .i64 0,.int .i64 0,.undef]) (m:=0) ⟨rfl,rfl⟩ ?_;rintro U fr st' ⟨rfl,rfl⟩;simp only[K92,rE,show ltI 0 0=false from rfl];refine we ?_;simp only[K92,rE,show ltI 0 0=false from rfl];exact wc ⟨_,_,rfl,rfl,rfl⟩
 · refine wj (fn:=a92) rfl rfl rfl ?_;simp only[K92,rS,rE];refine wg (fun U fr st'=>st'=st∧∃ (i j:Nat) (v8:AV),i≤j∧j≤es.length∧U=j - i∧(∀ k (h:k < es.length),k < i→p8 es[k].id id=true)∧(∀ k (h:k < es.length),j≤k→p8 es[k].id id=false)∧fr=[.sl o 0 es.length 4,.str id,.func 93 [] [],.int .i64 0,.bool false,.int .i64 es.length,.int .i64 i,.int .i64 j,v8]) (m:=es.length) ⟨rfl,0,es.length,_,Aa _,AK _,by omega,fun k _ N=>absurd N (Nat.not_lt_zero _),fun k W T=>by omega,rfl⟩ ?_;rintro U fr st' ⟨rfl,i,j,v8,a1,hj,rfl,W,T,rfl⟩;simp only[K92,rE];by_cases O:i < j
   · have Z:(i+j) / 2 < es.length:=by omega
     have a2:i≤(i+j) / 2:=by omega
     have a0:(i+j) / 2 < j:=by omega
     have z:=d1M (i:=i) (j:=j) (by omega);have u:=fun call bx=>a2s ho Z call bx
     have l:=c2S (es[(i+j) / 2]) id st';have y:p8 es[(i+j) / 2].id id=true→∀ k (h:k < es.length),k < (i+j) / 2+1→p8 es[k].id id=true:=fun M k N Y=>by
      by_cases e:k=(i+j) / 2
      · subst e; exact M
      · exact a1N _ _ _ (List.pairwise_iff_getElem.1 hs k ((i+j) / 2) N Z (by omega)) M
     have t:p8 es[(i+j) / 2].id id=false→∀ k (h:k < es.length),(i+j) / 2≤k→p8 es[k].id id=false:=fun M k N Y=>by
      by_cases e:k=(i+j) / 2
      · subst e; exact M
      · rcases e8 (p8 es[k].id id)with h3|h3
        · have:=a1N _ _ _ (List.pairwise_iff_getElem.1 hs ((i+j) / 2) k Z N (by omega)) h3;rw[M]at this; cases this
        · exact h3
     revert u l y t z;generalize a3:(i+j) / 2=m at *
     generalize es[m]=e;intro z u l y t;have L:((m:Int) < (es.length:Int))=True:=by simp; omega
     simp only[K92,rE,O,d3B,z,L,u,Ent.row_w];refine wl l rfl rfl ?_;rintro _ _ ⟨rfl,rfl⟩;unfold a6y;rcases e8 (p8 e.id id)with hq|hq
     · simp only[K92,rE,hq,show ltI (-1) 0=true from rfl,k8 (show m+1 < 2 ^ 63 by omega)];exact wd (m':=j - (m+1)) (by omega) ⟨rfl,m+1,j,_,by omega,hj,rfl,y hq,T,rfl⟩
     · have:ltI (if eqN e.id id=true then 0 else 1) 0=false:=by split<;>rfl
       simp only[K92,hq,this];exact wd (m':=m - i) (by omega) ⟨rfl,i,m,_,by omega,by omega,rfl,W,t hq,rfl⟩
   · simp only[SS,O];refine we ?_;obtain rfl:i=j:=by omega
     have C:D8 id es=i:=b3B id es i hj W (fun h=>T i h (AK _));by_cases x:i < es.length
     · have u:=fun call bx=>a2s ho x call bx
       have l:=c2S (es[i]) id st';have J:=T i x (AK _);have I:Q7 id es=eqN es[i].id id:=by rw[Q7,C,AE x]
       have L:((i:Int) < (es.length:Int))=True:=by simp; omega
       rw[C,I];revert u l J;generalize es[i]=e;intro u l J;simp only[K92,rE,x,L,u,Ent.row_w];refine wl l rfl rfl ?_;rintro _ _ ⟨rfl,rfl⟩;simp only[SS];refine wc ⟨_,_,rfl,rfl,?_⟩;have:eqI (a6y e.id id) 0=eqN e.id id:=by unfold a6y;rw[J,if_neg (by decide)];cases eqN e.id id<;>rfl
       rw[this];rfl
     · have I:Q7 id es=false:=by rw[Q7,C,List.getElem?_eq_none (by omega)]
       rw[C,I];simp only[K92,rE,x];exact wc ⟨_,_,rfl,rfl,rfl⟩
theorem a6P (es:List Ent):(m3 es).map AV.weak1=m3 es:=by
 induction es with
 | nil=>rfl
 | cons e es l=>rw[show m3 (e::es)=e.row++m3 es from rfl,AW,l]; rfl
theorem EntsAt.gr {v:AV} {es:List Ent} {st st':St} (h:EntsAt v es st) (t:Gr st st'):EntsAt v es st':=by
 rcases h with h|⟨o,e,l⟩
 · exact .inl h
 · exact .inr ⟨o,e,t o _ l⟩
theorem EntsAt.wk {v:AV} {es:List Ent} {st:St} (h:EntsAt v es st):v.weak=v∧v.weak1=v∧v.strip=v∧v.stripB=v∧v.plain=true∧v.cells=[v]∧v.cellsW=[v]:=by rcases h with⟨rfl,_⟩|⟨o,rfl,_⟩<;>exact⟨rfl,rfl,rfl,rfl,rfl,rfl,rfl⟩
theorem a9u (st:St):EvQ tbl 47 [.nils] st (fun a st'=>a=.nils∧st'=st):=EvQ.of_ext (fn:=a47) rfl rfl (r:=(.nils,st)) rfl ⟨rfl,rfl⟩
theorem b1P {es:List Ent} {o:Nat} {st:St} (h:st[o]?=some (.cells (m3 es))) (l:es.length≤100000):EvQ tbl 47 [.sl o 0 es.length 4] st (fun a st'=>a=.sl st.length 0 es.length 4∧st'=st++[.cells (m3 es)]):=by refine EvQ.of_ext (fn:=a47) (e:=a1V 4 80) (r:=(.sl st.length 0 es.length 4,st++[.cells (m3 es)])) rfl rfl ?_ ⟨rfl,rfl⟩;unfold a1V;dsimp only;rw[h];dsimp only;rw[if_pos ⟨rfl,by rw[a1L]; omega,by omega⟩,List.drop_zero,← a1L,List.take_length,a6P]
theorem c1M (x:Ent) (st:St):EvQ tbl 88 [.nils,.int .i64 0,.list false [x.row]] st (fun a st'=>a=.sl st.length 0 1 4∧st'=st++[.cells (m3 [x])]) :=
 EvQ.of_ext (fn:=a88) (e:=Z7 4 80) (r:=(.sl st.length 0 1 4,st++[.cells (m3 [x])])) rfl rfl (by unfold Z7; dsimp only; rw[if_pos ⟨rfl,rfl⟩]; rfl) ⟨rfl,rfl⟩
theorem a6a (es:List Ent):∀ i,(m3 es).take (i*4)=m3 (es.take i):=by
 induction es with
 | nil=>intro i; simp[m3]
 | cons e es l =>
  intro i;cases i with
  | zero=>rw[Nat.zero_mul,List.take_zero,List.take_zero]; rfl
  | succ i =>rw[List.take_succ_cons,show m3 (e::es)=e.row++m3 es from rfl,show m3 (e::es.take i)=e.row++m3 (es.take i)from rfl,← l i,show(i+1)*4=i*4+4 by omega];rfl
theorem c47 {es:List Ent} {o:Nat} {st:St} (x:Ent) (h:st[o]?=some (.cells (m3 es))) (l:es.length≤100000) {i:Nat} (hi:i≤es.length):EvQ tbl 88 [.sl o 0 es.length 4,.int .i64 i,.list false [x.row]] st (fun a st'=>a=.sl st.length 0 (es.length+1) 4∧st'=st.set o .dead++[.cells (m3 (es.take i++x::es.drop i))]):=by refine EvQ.of_ext (fn:=a88) (e:=Z7 4 80) (r:=(.sl st.length 0 (es.length+1) 4,st.set o .dead++[.cells (m3 (es.take i++x::es.drop i))])) rfl rfl ?_ ⟨rfl,rfl⟩;simp only[Z7,h];rw[if_pos ⟨trivial,by omega,by omega,a1L es,rfl,by omega⟩,Int.toNat_natCast,O1,a6a,a27,a7p];rw[show m3 (x::es.drop i)=x.row++m3 (es.drop i)from rfl,AW,AW,a6P,a6P,AX];rfl
theorem b1g {es:List Ent} {v:AV} {st:St} (h:EntsAt v es st) (l:T3 es) (e:es.length≤100000) (id:List Nat):EvQ tbl 48 [.agg [v],.str id] st (fun a st'=>st'=st∧a=.tuple [.int .i64 (D8 id es),.bool (Q7 id es)]):=by obtain⟨w1,t,y,u,x,z,C⟩:=h.wk;refine wj (fn:=a48) rfl rfl rfl ?_;simp only[K48,rS,rE,w1,t,u];refine wa (b9F h l e id) (by simp only[C7,x]; rfl) (by simp only[AH,AM,w1]; rfl) ?_;rintro _ _ ⟨rfl,rfl⟩;simp only[SS];exact wc ⟨_,_,rfl,rfl,rfl⟩
def N6 (es:List Ent) (x:Ent):List Ent:=if Q7 x.id es then es.set (D8 x.id es) x else es.take (D8 x.id es)++x::es.drop (D8 x.id es)
theorem b4c {id:List Nat} {es:List Ent} (h:Q7 id es=true):D8 id es < es.length:=by
 unfold Q7 at h;cases l:es[D8 id es]? with
 | none=>rw[l]at h; cases h
 | some e=>exact(AB.1 l).1
theorem c39 {es:List Ent} (x:Ent):∀ {i:Nat},i < es.length→u9 (m3 es) (i*4) x.row=m3 (es.set i x):=by intro i hi;unfold u9;rw[show x.row.length=4 from rfl,a6a,show i*4+4=(i+1)*4 by omega,a27,List.set_eq_take_append_cons_drop,if_pos hi,a7p,AX];rfl
theorem c82 {es:List Ent} {v:AV} {st:St} (h:EntsAt v es st) (N:T3 es) (I:es.length≤100000) (x:Ent):EvQ tbl 40 [.agg [v],.agg x.row] st (fun a st'=>∃ O,a=.agg [O]∧EntsAt O (N6 es x) st'∧Gr st st'):=by
 obtain⟨w1,Y,w3,Z,w5,w6,w7⟩:=h.wk;have ex:x.row=[.str x.t,.str x.id,.list false (x.ks.map d8),.list false (x.ls.map Val.row)]:=rfl;rw[ex];refine wj (fn:=a40) rfl rfl rfl ?_;simp only[K40,rS,rE,w1,Y,Z];rcases h with⟨rfl,rfl⟩|⟨o,rfl,M⟩
 · refine wa (a9u st) rfl rfl ?_;rintro _ _ ⟨rfl,rfl⟩;simp only[K40,rE];refine wa (b1g (.inl ⟨rfl,rfl⟩) N I x.id) rfl rfl ?_;rintro _ st ⟨rfl,rfl⟩;simp only[K40,rA,rE,show Q7 x.id []=false from rfl,show D8 x.id []=0 from rfl];have hi:=c1M x st;rw[ex]at hi;refine wa hi rfl rfl ?_;rintro _ _ ⟨rfl,rfl⟩;simp only[K40,rE];exact wc ⟨_,_,rfl,_,rfl,.inr ⟨_,rfl,p9 st _⟩,Gr.app _ _⟩
 · refine wa (b1P M I) rfl rfl ?_;rintro _ _ ⟨rfl,rfl⟩;simp only[K40,rE];refine wa (b1g (.inr ⟨o,rfl,Gr.app st _ _ _ M⟩) N I x.id) rfl rfl ?_;rintro _ _ ⟨rfl,rfl⟩;simp only[K40];refine wi (fun l=>?_) (fun l=>?_)
   · have J:=b4c l;have L:((D8 x.id es:Int) < (es.length:Int))=True:=by simp; omega
     have C:=p9 st (.cells (m3 es));have e:=c39 x J;rw[ex]at e;have u:D8 x.id es*4+4≤(m3 es).length:=by rw[a1L]; omega
     simp only[K40,rA,rE,L,C,u,U1];refine wc ⟨_,_,rfl,_,rfl,.inr ⟨st.length,by rw[N6,if_pos l,Ab]; rfl,by rw[N6,if_pos l,← e]; exact p9 st _⟩,Gr.app _ _⟩
   · have U:=b4i x.id es;have hi:=c47 x (p9 st (.cells (m3 es))) I U;rw[ex]at hi;simp only[K40,rA,rE];refine wa hi rfl rfl ?_;rintro _ _ ⟨rfl,rfl⟩;simp only[K40,rE,U1];have z:(es.take (D8 x.id es)++x::es.drop (D8 x.id es)).length=es.length+1:=by simp; omega
     have T:(st++[Cb.Obj.cells (m3 es)]).length=st.length+1:=by simp
     refine wc ⟨_,_,rfl,_,rfl,.inr ⟨st.length+1,?_,?_⟩,fun i y W=>?_⟩
     · rw[N6,if_neg (by rw[l]; decide),z,T]; rfl
     · rw[N6,if_neg (by rw[l]; decide)];simp
     · exact Gr.app _ _ _ _ (Gr.app st _ _ _ W)
theorem c4I {e:Ent} {id:List Nat} (h:p8 e.id id=true) (es:List Ent):D8 id (e::es)=D8 id es+1∧Q7 id (e::es)=Q7 id es:=by
 have l:D8 id (e::es)=D8 id es+1:=by rw[D8,if_pos h]
 refine⟨l,?_⟩;unfold Q7;rw[l,List.getElem?_cons_succ]
theorem c3U {e:Ent} {id:List Nat} (h:p8 e.id id=false) (es:List Ent):D8 id (e::es)=0∧Q7 id (e::es)=eqN e.id id:=by
 have l:D8 id (e::es)=0:=by rw[D8,h]; rfl
 refine⟨l,?_⟩;unfold Q7;rw[l,List.getElem?_cons_zero]
theorem a7Z (e:Ent) (es:List Ent) (x:Ent):N6 (e::es) x=if p8 e.id x.id then e::N6 es x else if eqN e.id x.id then x::es else x::e::es:=by
 unfold N6;rcases e8 (p8 e.id x.id)with h|h
 · obtain⟨l,t⟩:=c4I h es;rw[l,t,if_pos h];split
   · rw[List.set_cons_succ]
   · rw[List.take_succ_cons,List.drop_succ_cons]; rfl
 · obtain⟨l,t⟩:=c3U h es;simp only[l,t,h,Bool.false_eq_true,if_false];rfl
theorem a9M (x:Ent):N6 [] x=[x]:=rfl
theorem a9w {es:List Ent} {x y:Ent} (h:y∈N6 es x):y=x∨y∈es:=by
 induction es with
 | nil=>rw[a9M]at h; exact .inl (List.mem_singleton.1 h)
 | cons e es l =>
  rw[a7Z]at h;split at h
  · rcases List.mem_cons.1 h with h|h
    · exact .inr (h ▸ List.mem_cons_self ..)
    · exact(l h).imp id (List.mem_cons_of_mem _)
  · split at h
    · rcases List.mem_cons.1 h with h|h
      · exact .inl h
      · exact .inr (List.mem_cons_of_mem _ h)
    · exact List.mem_cons.1 h
theorem b0e {a b c:List Nat} (h:eqN a b=true) (e:p8 a c=true):p8 b c=true:=by rw[← (b3r a b).1 h]; exact e
theorem b1s {es:List Ent} (u:T3 es) (x:Ent):T3 (N6 es x):=by
 induction es with
 | nil=>rw[a9M]; exact List.pairwise_singleton _ _
 | cons e es v =>
  rw[a7Z];obtain⟨l,t⟩:=List.pairwise_cons.1 u;rcases e8 (p8 e.id x.id)with h|h
  · rw[if_pos h];refine List.pairwise_cons.2 ⟨fun y hy=>?_,v t⟩;rcases a9w hy with rfl|hy
    · exact h
    · exact l y hy
  · rw[if_neg (by rw[h]; decide)];rcases e8 (eqN e.id x.id)with h3|h3
    · rw[if_pos h3];exact List.pairwise_cons.2 ⟨fun y hy=>b0e h3 (l y hy),t⟩
    · rw[if_neg (by rw[h3]; decide)];have h4:p8 x.id e.id=true:=by
       rcases e8 (p8 x.id e.id)with h4|h4
       · exact h4
       · rw[b11 _ _ h h4,U8]at h3; cases h3
      refine List.pairwise_cons.2 ⟨fun y hy=>?_,u⟩;rcases List.mem_cons.1 hy with rfl|hy
      · exact h4
      · exact a1N _ _ _ h4 (l y hy)
theorem b8N (es:List Ent) (x:Ent):(N6 es x).length≤es.length+1:=by
 unfold N6;split
 · rw[Ab]; omega
 · simp; omega
def ofE (l:List Ent):List Ent:=l.foldl N6 []
theorem b0W (l:List Ent) (x:Ent):ofE (l++[x])=N6 (ofE l) x:=by unfold ofE; rw[List.foldl_append]; rfl
theorem c1t {α:Type} {P:List α→Prop} (e:P []) (t:∀ l x,P l→P (l++[x])) (l:List α):P l:=by
 have:∀ m:List α,P m.reverse:=by
  intro m;induction m with
  | nil=>exact e
  | cons x m u=>rw[List.reverse_cons]; exact t _ _ u
 have:=this l.reverse
 rwa [List.reverse_reverse]at this
theorem b8C (l:List Ent):T3 (ofE l)∧(ofE l).length≤l.length∧∀ y∈ofE l,y∈l:=by
 refine c1t (P:=fun l=>T3 (ofE l)∧(ofE l).length≤l.length∧∀ y∈ofE l,y∈l) ⟨List.Pairwise.nil,AK _,fun y hy=>by cases hy⟩ (fun l x u=>?_) l;obtain⟨e,v,t⟩:=u;rw[b0W];refine⟨b1s e x,by have:=b8N (ofE l) x; rw[AF]; simp; omega,fun y hy=>?_⟩;rcases a9w hy with rfl|hy
 · exact List.mem_append_right _ (by simp)
 · exact List.mem_append_left _ (t y hy)
theorem c7r {es:List Ent} {i:Nat} (h:i < es.length):(es.map Ent.row)[i]?=some (es[i]).row:=by rw[AU,AE h]; rfl
theorem d2W (l:List Ent) (W:l.length≤100000) (st:St):EvQ tbl 18 [.list false (l.map Ent.row)] st (fun a st'=>∃ v,a=.agg [v]∧EntsAt v (ofE l) st'∧Gr st st'):=by
 refine wj (fn:=a18) rfl rfl rfl ?_;simp only[K18,rS,AG];refine wg (fun O fr st'=>Gr st st'∧∃ (i:Nat) (v v3:AV),i≤l.length∧O=l.length - i∧EntsAt v (ofE (l.take i)) st'∧fr=[.list false (l.map Ent.row),.box [.nils],.box [v],v3,.list false (l.map Ent.row),.int .i64 l.length,.int .i64 i]) (m:=l.length) ⟨Gr.refl st,0,_,_,Aa _,rfl,.inl ⟨rfl,rfl⟩,rfl⟩ ?_;rintro O fr st' ⟨N,i,v,v3,hi,rfl,C,rfl⟩;obtain⟨w1,J,w3,w4,w5,w6,w7⟩:=C.wk;simp only[K18];by_cases e:i < l.length
 · have z:=c7r e;have u:ofE (l.take (i+1))=N6 (ofE (l.take i)) l[i]:=by rw[List.take_add_one,AE e];exact b0W _ _
   obtain⟨T,M,_⟩:=b8C (l.take i);have I:=c82 C T (by rw[AP]at M; omega) l[i];revert z u I;generalize l[i]=x;intro z u I;have ex:x.row=[.str x.t,.str x.id,.list false (x.ks.map d8),.list false (x.ls.map Val.row)]:=rfl;rw[ex]at z I;simp only[K18,rA,rE,e,z,J];refine wa I (by simp only[R.allPlain_c,R.allPlain_n,R.plain_agg]; rfl) (by simp only[AH,AM,N3,J]; rfl) ?_;rintro _ st2 ⟨U,rfl,y,L⟩;obtain⟨Y,Z,u3,u4,u5,u6,u7⟩:=y.wk;simp only[K18,k8 (show i+1 < 2 ^ 63 by omega)];exact wd (m':=l.length - (i+1)) (by omega) ⟨N.trans L,i+1,U,_,e,rfl,u ▸ y,rfl⟩
 · rw[List.take_of_length_le (by omega)]at C;simp only[SS,e];refine we ?_;simp only[K18,J];exact wc ⟨_,_,rfl,v,by simp only[List.take_succ_cons,List.take_zero,AH,AM,J],C,N⟩
theorem a2f (n:Int):eqI n n=true:=by rw[eqI_eq]; simp
inductive Val.Fin:Val→Prop
 | mk (k n:Int) (s:List Nat) (ks:List (List Nat)) (ls:List Val) (hk:ks.length < 2 ^ 62) (hl:ls.length < 2 ^ 62) (h:∀ v∈ls,Val.Fin v):Val.Fin (.mk k n s ks ls)
theorem b8k {v:Val} (h:v.Fin):∀ st:St,EvQ tbl 21 [.agg v.row,.agg v.row] st (fun a st'=>st'=st∧a=.bool true):=by
 induction h with
 | mk k n s ks ls M N h C =>
  intro st;rw[Val.row_eq];refine wj (fn:=a21) rfl rfl rfl ?_;simp only[K21,rS,rE,a2f,U8,AG];refine wg (fun y fr st'=>st'=st∧∃ (i:Nat),i≤ks.length∧y=ks.length - i∧fr=[.agg [.int .u8 k,.int .i64 n,.str s,.list false (ks.map d8),.list false (ls.map Val.row)],.agg [.int .u8 k,.int .i64 n,.str s,.list false (ks.map d8),.list false (ls.map Val.row)],.box [.int .u8 k,.int .i64 n,.str s,.list false (ks.map d8),.list false (ls.map Val.row)],.box [.int .u8 k,.int .i64 n,.str s,.list false (ks.map d8),.list false (ls.map Val.row)],.bool false,.int .i64 i,.undef]) (m:=ks.length) ⟨rfl,0,Aa _,rfl,rfl⟩ ?_;rintro y fr st' ⟨rfl,i,hi,rfl,rfl⟩;by_cases l:i < ks.length
  · have e2:=a0I l;simp only[K21,rE,AG,l,e2,U8,k8 (show i+1 < 2 ^ 63 by omega)];exact wd (m':=ks.length - (i+1)) (by omega) ⟨rfl,i+1,l,rfl,rfl⟩
  simp only[K21,rE,AG,l];refine we ?_;simp only[K21];refine wg (fun y fr x=>x=st'∧∃ (j:Nat),j≤ls.length∧y=ls.length - j∧fr=[.agg [.int .u8 k,.int .i64 n,.str s,.list false (ks.map d8),.list false (ls.map Val.row)],.agg [.int .u8 k,.int .i64 n,.str s,.list false (ks.map d8),.list false (ls.map Val.row)],.box [.int .u8 k,.int .i64 n,.str s,.list false (ks.map d8),.list false (ls.map Val.row)],.box [.int .u8 k,.int .i64 n,.str s,.list false (ks.map d8),.list false (ls.map Val.row)],.bool false,.int .i64 i,.int .i64 j]) (m:=ls.length) ⟨rfl,0,Aa _,rfl,rfl⟩ ?_;rintro y fr x ⟨rfl,j,L,rfl,rfl⟩;by_cases e:j < ls.length
  · have e2:=a0G e;have t:=C _ (List.getElem_mem e);revert e2 t;generalize ls[j]=u;intro e2 t;obtain⟨O,T,U,I,J,z⟩:=u.row_cells;rw[z]at e2;simp only[z]at t;simp only[K21,rA,rE,AG,e,e2];refine wa (t _) rfl rfl ?_;rintro _ _ ⟨rfl,rfl⟩;simp only[K21,rE,k8 (show j+1 < 2 ^ 63 by omega)];exact wd (m':=ls.length - (j+1)) (by omega) ⟨rfl,j+1,e,rfl,rfl⟩
  · simp only[K21,rE,AG,e];refine we ?_;simp only[K21];exact wc ⟨_,_,rfl,rfl,rfl⟩
theorem Small.fin {v:Val} (h:Small v):v.Fin:=by
 obtain⟨k,n,s,ls,rfl,_,l,hu⟩:=h;refine .mk _ _ _ _ _ (by decide) (by omega) fun u e=>?_
 obtain⟨k,n,s,rfl,_⟩:=hu u e;exact .mk _ _ _ _ _ (by decide) (by decide) fun u hu=>by cases hu
theorem b7L {e:Ent} (h:e.Good) (st:St):EvQ tbl 30 [.agg e.row,.agg e.row] st (fun a st'=>st'=st∧a=.bool true):=by have y:=h.kl;have z:=h.le;have l:=b8k (v:=.mk 0 0 [] e.ks e.ls) (.mk _ _ _ _ _ (by omega) (by omega) fun v x=>(h.sm v x).fin) st;rw[Val.row_eq]at l;have u:e.row=[.str e.t,.str e.id,.list false (e.ks.map d8),.list false (e.ls.map Val.row)]:=rfl;rw[u];refine wj (fn:=a30) rfl rfl rfl ?_;simp only[K30,rA,rS,rL,rE,U8];refine wa l rfl rfl ?_;rintro _ _ ⟨rfl,rfl⟩;simp only[SS];exact wc ⟨_,_,rfl,rfl,rfl⟩
theorem b6k {es:List Ent} {i:Nat} (h:i < es.length):(4≤(List.drop (i*4) (m3 es)).length)=True∧List.map AV.weak1 (List.take 4 (List.drop (i*4) (m3 es)))=es[i].row:=by
 have e:=a9s h;rw[R.takeVal_t]at e;split at e
 · rename_i l;exact⟨by simpa using l,by simpa using e⟩
 · cases e
def Ent.none:Ent:=⟨[],[],[],[]⟩
def a3a (es:List Ent) (id:List Nat):Option Ent:=if Q7 id es then es[D8 id es]? else .none
theorem a9A {es:List Ent} {id:List Nat} {e:Ent} (h:a3a es id=some e):e∈es∧eqN e.id id=true:=by
 unfold a3a at h;split at h
 · rename_i l;unfold Q7 at l;rw[h]at l;exact⟨List.mem_of_getElem? h,l⟩
 · cases h
theorem b5n {es:List Ent} {v:AV} {st:St} (I:EntsAt v es st) (N:T3 es) (L:es.length≤100000) (id:List Nat):EvQ tbl 29 [.agg [v],.str id] st (fun a st'=>st'=st∧a=.tuple [.agg ((a3a es id).getD Ent.none).row,.bool (a3a es id).isSome]):=by
 have u:=b1g I N L id;have z:=fun h=>b4c (es:=es) (id:=id) h
 rcases I with⟨rfl,rfl⟩|⟨o,rfl,M⟩
 · refine wj (fn:=a29) rfl rfl rfl ?_;simp only[K29,rS,rE];refine wa u rfl rfl ?_;rintro _ _ ⟨rfl,rfl⟩;simp only[K29,rA,rE,show Q7 id []=false from rfl];exact wc ⟨_,_,rfl,rfl,rfl⟩
 · refine wj (fn:=a29) rfl rfl rfl ?_;simp only[K29,rS,rE];refine wa u rfl rfl ?_;rintro _ _ ⟨rfl,rfl⟩;unfold a3a;rcases e8 (Q7 id es)with h|h
   · have x:=z h;obtain⟨y,l⟩:=b6k x;have C:((D8 id es:Int) < (es.length:Int))=True:=by simp; omega
     rw[if_pos h,AE x];revert l;generalize es[D8 id es]=e;intro l;have J:e.row=[.str e.t,.str e.id,.list false (e.ks.map d8),.list false (e.ls.map Val.row)]:=rfl;rw[J]at l;simp only[K29,rA,rE,h,C,M,y,l];exact wc ⟨_,_,rfl,rfl,rfl⟩
   · rw[h,if_neg (by decide)];simp only[K29,rA,rE];exact wc ⟨_,_,rfl,rfl,rfl⟩
def TRef.nm:TRef→List Nat
 | .base n _=>n
 | .wrap _ _=>[]
def TRef.of:TRef→List (List AV)
 | .base _ _=>[]
 | .wrap t _=>[t.row]
def TRef.bang:TRef→Bool
 | .base _ b=>b
 | .wrap _ b=>b
def TRef.bs:TRef→List Nat
 | .base n _=>n
 | .wrap t _=>t.bs
theorem TRef.row_eta (t:TRef):t.row=[.str t.nm,.list false t.of,.bool t.bang]:=by cases t<;>rfl
def Val.names:Val→List (List Nat)|.mk _ _ _ ks _=>ks
def Val.vals:Val→List Val|.mk _ _ _ _ ls=>ls
theorem Val.row_eta (v:Val):v.row=[.int .u8 v.kind,.int .i64 v.num,.str v.text,.list false (v.names.map d8),.list false (v.vals.map Val.row)]:=by cases v; exact Val.row_eq _ _ _ _ _
structure FDef where
 n:List Nat
 ar:List (List AV)
 t:TRef
 has:Bool
 v:Val
def FDef.row (f:FDef):List AV:=[.str f.n,.list false f.ar,.str f.t.nm,.list false f.t.of,.bool f.t.bang,.bool f.has,.int .u8 f.v.kind,.int .i64 f.v.num,.str f.v.text,.list false (f.v.names.map d8),.list false (f.v.vals.map Val.row)]
def FDef.none:FDef:=⟨[],[],.base [] false,false,Val.none⟩
def E4 (ks:List (List Nat)) (ls:List Val):Cb.Obj:=.cells [.int .u8 6,.int .i64 0,.str [],.list true (ks.map d8),.list true (ls.map Val.row)]
def Sel.nm:Sel→List Nat|.mk _ _ nm _ _ _ _=>nm
def Sel.as:Sel→List Arg|.mk _ _ _ _ as _ _=>as
def Sel.sub:Sel→List Sel|.mk _ _ _ _ _ _ sub=>sub
structure RS where
 ps:List (List (List Nat)×Int)
 part:Bool
 steps:Nat
def RS.prob (s:RS) (p:List (List Nat)) (e:Int):RS:=⟨s.ps++[(p,e)],s.part,s.steps⟩
def RS.step (s:RS):RS:=⟨s.ps,s.part,if s.steps≤5000 then s.steps+1 else s.steps⟩
structure REnv where
 so:Nat
 ops:List (List AV)
 frs:List (List AV)
 es:List Ent
 v:AV
 whole:Bool
 tv:AV
 vk:Int
 vn:Int
 vs:List Nat
 vks:List (List AV)
 vls:List (List AV)
 fld:List Nat→List Nat→Option FDef
 grp:List Nat→List Sel→List (List Nat×List Sel)
 poss:List Nat→List (List Nat)
 leaf:List Nat→Bool
 fits:List Nat→Val→Bool
 knows:List Nat→Bool
 args:FDef→List Arg→Val×Int
def REnv.know (E:REnv) (s:RS) (n:List Nat):RS:=if E.knows n then s else⟨s.ps,true,s.steps⟩
def REnv.vars (E:REnv):List AV:=[.int .u8 E.vk,.int .i64 E.vn,.str E.vs,.list false E.vks,.list false E.vls]
def VX (v:Val):Prop:=∃ k n s ls,v=.mk k n s [] ls∧k≠6∧ls.length≤100000∧∀ u∈ls,∃ k n s,u=.mk k n s [] []∧k≠6
theorem VX.one {k n:Int} {s:List Nat} (h:k≠6):VX (.mk k n s [] []):=⟨k,n,s,[],rfl,h,by decide,by simp⟩
theorem VX.none:VX Val.none:=VX.one (by decide)
theorem Small.vx {v:Val} (h:Small v):VX v:=let ⟨k,n,s,ls,h1,h2,h3,h4⟩:=h; ⟨k,n,s,ls,h1,h2.1.1,by omega,fun u hu=>let ⟨k,n,s,e,hk⟩:=h4 u hu; ⟨k,n,s,e,hk.1⟩⟩
theorem VX.sub {k n:Int} {s:List Nat} {ks:List (List Nat)} {ls:List Val} (h:VX (.mk k n s ks ls)):∀ u∈ls,VX u:=fun u hu=>by obtain⟨x,y,s',v,e,_,_,l⟩:=h;cases e;obtain⟨k,n,s,rfl,t⟩:=l u hu;exact VX.one t
def G9 (ps:List (List (List Nat)×Int)):List AV:=ps.flatMap fun p=>[.list false (p.1.map d8),.int .i64 p.2]
theorem b4P (ps:List (List (List Nat)×Int)):(G9 ps).length=ps.length*2:=by
 induction ps with
 | nil=>rfl
 | cons p ps e=>rw[show G9 (p::ps)=[.list false (p.1.map d8),.int .i64 p.2]++G9 ps from rfl,AF,e,AY]; simp; omega
theorem b5x (a b:List (List (List Nat)×Int)):G9 (a++b)=G9 a++G9 b:=by simp[G9]
def H6 (E:REnv) (s:RS) (pv:AV):List AV:=[.ptr E.so 0,.list false E.ops,.list false E.frs,E.v,.bool E.whole,E.tv,.int .u8 E.vk,.int .i64 E.vn,.str E.vs,.list false E.vks,.list false E.vls,pv,.bool s.part,.int .i64 s.steps]
def PAt (b:Nat) (pv:AV) (ps:List (List (List Nat)×Int)) (st:St):Prop:=(pv=.nils∧ps=[])∨∃ o,b < o∧pv=.sl o 0 ps.length 2∧st[o]?=some (.cells (G9 ps))
structure RunAt (E:REnv) (B:St) (s:RS) (pv:AV) (st:St):Prop where
 ob:st[B.length]?=some (.cells (H6 E s pv))
 pr:PAt B.length pv s.ps st
 gr:Gr B st
 le:s.steps≤5001
 pl:∀ x∈s.ps,x.1.length≤100000
structure RK (B:St) (pv:AV) (st:St) (pv':AV) (st':St):Prop where
 keep:∀ i x,i≠B.length→t8 pv≠some i→st[i]?=some x→st'[i]?=some x
 len:st.length≤st'.length
 pv:pv'=pv∨∀ o,t8 pv'=some o→st.length≤o
theorem RK.refl (B:St) (pv:AV) (st:St):RK B pv st pv st:=⟨fun _ _ _ _ h=>h,AK _,.inl rfl⟩
theorem RK.trans {B:St} {pv t u:AV} {st st1 st2:St} (h:RK B pv st t st1) (v:RK B t st1 u st2):RK B pv st u st2:=by
 refine⟨fun i x hi y z=>v.keep i x hi (fun l=>?_) (h.keep i x hi y z),Nat.le_trans h.len v.len,?_⟩
 · rcases h.pv with e|e
   · rw[e]at l; exact y l
   · have:=e i l;have:=(AB.1 z).1;omega
 · rcases v.pv with e|e
   · rw[e]; exact h.pv
   · exact .inr fun o C=>Nat.le_trans h.len (e o C)
theorem RK.of_gr {B:St} {pv:AV} {st st':St} (h:Gr st st') (e:st.length≤st'.length):RK B pv st pv st':=⟨fun i x _ _ l=>h i x l,e,.inl rfl⟩
theorem PAt.wk {b:Nat} {pv:AV} {ps:List (List (List Nat)×Int)} {st:St} (h:PAt b pv ps st):pv.weak=pv∧pv.weak1=pv∧pv.strip=pv∧pv.stripB=pv∧pv.plain=true∧pv.cells=[pv]∧pv.cellsW=[pv]:=by rcases h with⟨rfl,_⟩|⟨o,_,rfl,_⟩<;>exact⟨rfl,rfl,rfl,rfl,rfl,rfl,rfl⟩
theorem PAt.root {b:Nat} {pv:AV} {ps:List (List (List Nat)×Int)} {st:St} (h:PAt b pv ps st):∀ o,t8 pv=some o→b < o∧o < st.length:=fun o e=>by
 rcases h with⟨rfl,_⟩|⟨p,l,rfl,t⟩
 · cases e
 · cases e; exact⟨l,(AB.1 t).1⟩
theorem RunAt.grow {E:REnv} {B:St} {s:RS} {pv:AV} {st st':St} (h:RunAt E B s pv st) (e:Gr st st'):RunAt E B s pv st' :=
 ⟨e _ _ h.ob,by rcases h.pr with v|⟨o,l,t,u⟩; exact .inl v; exact .inr ⟨o,l,t,e _ _ u⟩,h.gr.trans e,h.le,h.pl⟩
theorem RunAt.put {E:REnv} {B:St} {s s':RS} {pv:AV} {st:St} (h:RunAt E B s pv st) (l:s'.ps=s.ps) (u:s'.steps≤5001):RunAt E B s' pv (st.set B.length (.cells (H6 E s' pv)))∧RK B pv st pv (st.set B.length (.cells (H6 E s' pv))):=by
 have t:∀ i x,i≠B.length→st[i]?=some x→(st.set B.length (.cells (H6 E s' pv)))[i]?=some x:=fun i x hi e=>by rw[List.getElem?_set_ne (by omega)]; exact e
 refine⟨⟨List.getElem?_set_self (AB.1 h.ob).1,?_,fun i x e=>?_,u,by rw[l]; exact h.pl⟩,fun i x hi _ e=>t i x hi e,by simp,.inl rfl⟩
 · rw[l];rcases h.pr with C|⟨o,v,y,z⟩
   · exact .inl C
   · exact .inr ⟨o,v,y,t o _ (by omega) z⟩
 · exact t i x (by have:=(AB.1 e).1; omega) (h.gr i x e)
theorem d23 (a:Int) (b:Int):(!ltI b a)=decide (a≤b):=by
 rw[ltI_eq];by_cases h:a≤b
 · rw[decide_eq_true h,decide_eq_false (by omega)]; rfl
 · rw[decide_eq_false h,decide_eq_true (by omega)]; rfl
theorem b6Q {E:REnv} {B:St} {s:RS} {pv:AV} {st:St} (h:RunAt E B s pv st):EvQ tbl 85 [.ptr B.length 0] st (fun a st'=>a=.bool (decide (s.step.steps≤5000))∧RunAt E B s.step pv st'∧RK B pv st pv st'):=by
 have l:=h.ob;have J:=h.le;obtain⟨w1,L,M,N,O,T,U⟩:=h.pr.wk;unfold H6 at l;refine wj (fn:=a85) rfl rfl rfl ?_;simp only[K85,rS,rE,l];by_cases x:s.steps≤5000
 · have c:ltI 5000 (s.steps:Int)=false:=by rw[ltI_eq]; simp; omega
   obtain⟨z,C⟩:=h.put (s':=s.step) rfl (by unfold RS.step; dsimp only; rw[if_pos x]; omega);have e:H6 E s.step pv=[.ptr E.so 0,.list false E.ops,.list false E.frs,E.v,.bool E.whole,E.tv,.int .u8 E.vk,.int .i64 E.vn,.str E.vs,.list false E.vks,.list false E.vls,pv,.bool s.part,.int .i64 ((s.steps+1:Nat):Int)]:=by unfold H6 RS.step; dsimp only; rw[if_pos x]
   have t:s.step.steps=s.steps+1:=by unfold RS.step; dsimp only; rw[if_pos x]
   rw[t];rw[e]at z C;have u:∀ y:Cb.Obj,(st.set B.length y)[B.length]?=some y:=fun y=>List.getElem?_set_self (AB.1 l).1
   have I:(!ltI 5000 ((s.steps+1:Nat):Int))=decide (s.steps+1≤5000):=by rw[d23]; apply decide_eq_decide.2; omega
   simp only[K85,rA,rL,rE,c,l,u,k8 (show s.steps+1 < 2 ^ 63 by omega),I];refine wc ⟨_,_,rfl,?_,z,C⟩;rfl
 · have t:s.step=s:=by unfold RS.step; rw[if_neg x]
   have c:ltI 5000 (s.steps:Int)=true:=by rw[ltI_eq]; simp; omega
   rw[t];simp only[K85,rE,c,l];refine wc ⟨_,_,rfl,?_,h,RK.refl _ _ _⟩;rw[decide_eq_false x];rfl
theorem a6s (l:List (List Nat)) (e:l.length≤100000000) (st:St):EvQ tbl 86 [.list false (l.map d8)] st (fun a st'=>st'=st∧a=.list true (l.map d8)):=by refine EvQ.of_ext (fn:=a86) (r:=(.list true (l.map d8),st)) rfl rfl ?_ ⟨rfl,rfl⟩;simp only[a1e,W2,AG,Bool.true_and];rw[if_pos (by simp; omega)]
theorem b9K (n:Nat):(n.beq n=true)=True:=by simp
theorem c1U {st:St} {o:Nat} {x:Cb.Obj} (h:st[o]?=some x):kept st st [.ptr o 0]=true:=by simp only[kept,t8,h,Bool.and_true];exact(a0f _ _).2 rfl
theorem RunAt.newp {E:REnv} {B:St} {s:RS} {pv:AV} {st:St} (h:RunAt E B s pv st) {st1:St} (J:∀ i x,i≠B.length→t8 pv≠some i→st[i]?=some x→st1[i]?=some x) (M:st1.length=st.length+1) {e:List (List (List Nat)×Int)} (u:st1[st.length]?=some (.cells (G9 e))) {n:Nat} (C:n=e.length) (z:∀ x∈e,x.1.length≤100000) :
 RunAt E B ⟨e,s.part,s.steps⟩ (.sl st.length 0 n 2) (st1.set B.length (.cells (H6 E ⟨e,s.part,s.steps⟩ (.sl st.length 0 n 2))))∧RK B pv st (.sl st.length 0 n 2) (st1.set B.length (.cells (H6 E ⟨e,s.part,s.steps⟩ (.sl st.length 0 n 2)))):=by
 subst C;have v:B.length < st.length:=(AB.1 h.ob).1;have l:∀ (y:Cb.Obj) i x,i≠B.length→st1[i]?=some x→(st1.set B.length y)[i]?=some x:=fun y i x hi t=>by rw[List.getElem?_set_ne (by omega)]; exact t
 refine⟨⟨List.getElem?_set_self (by omega),.inr ⟨st.length,v,rfl,l _ _ _ (by omega) u⟩,fun i x t=>?_,h.le,z⟩,fun i x hi I t=>l _ i x hi (J i x hi I t),by rw[Ab]; omega,.inr fun o L=>by cases L; exact AK _⟩;have hi:i < B.length:=(AB.1 t).1;exact l _ i x (by omega) (J i x (by omega) (fun I=>by have:=(h.pr.root i I).1; omega) (h.gr i x t))
theorem a2C {E:REnv} {B:St} {s:RS} {pv:AV} {st:St} (h:RunAt E B s pv st) {path:List (List Nat)} (N:path≠[]) (v:path.length≤100000) (W:s.ps.length≤100000) (e:Int) :
 EvQ tbl 136 [.ptr B.length 0,.list false (path.map d8),.int .i64 e] st (fun a st'=>∃ u,RunAt E B (s.prob path e) u st'∧RK B pv st u st'):=by
 have t:=h.ob;obtain⟨w1,T,Z,U,w5,w6,w7⟩:=h.pr.wk;have M:B.length < st.length:=(AB.1 t).1;unfold H6 at t;have L:(path.map d8).isEmpty=false:=by cases path with|nil=>exact absurd rfl N|cons x xs=>rfl
 refine wj (fn:=a136) rfl rfl rfl ?_;simp only[d30,rA,rS,rL,rE,t,a2b,b9K,w1,T,U];refine wm (a6s path (by omega) st) rfl rfl ?_;rintro _ st ⟨rfl,rfl⟩;refine⟨c1U t,?_⟩;have z:1*32≤2 ^ 47:=by decide
 have g12:∀ u,12≤(H6 E s u).length:=fun u=>by simp[H6]
 rcases h.pr with⟨rfl,I⟩|⟨o,Y,rfl,hx⟩
 · have l:=fun y=>m2 (y:=y) t
   obtain⟨f1,f2⟩:=h.newp (st1:=st++[.cells (G9 [(path,e)])]) (fun i x _ _ hx=>m2 hx) (by simp) (p9 _ _) (n:=1) rfl (fun x hx=>by simp at hx; rw[hx]; exact v);simp only[SS,rA,rL,z,l];exact wc ⟨_,_,rfl,.sl st.length 0 1 2,by rw[RS.prob,I]; exact f1,f2⟩
 · have l:∀ y:Cb.Obj,(st.set o .dead++[y])[B.length]?=some (.cells (H6 E s (.sl o 0 s.ps.length 2))):=fun y=>m2 (by rw[List.getElem?_set_ne (by omega)]; exact t)
   have J:(G9 s.ps).length=s.ps.length*2:=b4P _;have C:(s.ps.length+1)*32≤2 ^ 47:=by omega
   obtain⟨f1,f2⟩:=h.newp (st1:=st.set o .dead++[.cells (G9 (s.ps++[(path,e)]))]) (fun i x _ O hx=>m2 (by rw[List.getElem?_set_ne (fun h=>O (by rw[h]; rfl))]; exact hx)) (by simp) (by have:=p9 (st.set o .dead) (.cells (G9 (s.ps++[(path,e)]))); rw[Ab]at this; exact this) (n:=s.ps.length+1) (by simp) (fun x hx=>by
    rcases AQ.1 hx with hx|hx
    · exact h.pl x hx
    · simp at hx; rw[hx]; exact v)
   unfold H6 at l;rw[b5x]at f1 f2;simp only[SS,rA,rL,hx,J,C,l];exact wc ⟨_,_,rfl,.sl st.length 0 (s.ps.length+1) 2,f1,f2⟩
theorem Gr.len {st st':St} (h:Gr st st'):st.length≤st'.length:=by
 rcases Nat.lt_or_ge st'.length st.length with e|hge
 · have:=h st'.length _ (AE e);rw[List.getElem?_eq_none (AK _)]at this;cases this
 · exact hge
theorem a1I (a b:List Sel):sizes (a++b)=sizes a+sizes b:=by
 induction a with
 | nil=>simp[sizes]
 | cons x a e=>rw[List.cons_append,m0,m0,e]; omega
theorem a2I:∀ l:List Sel,l.length≤sizes l
 | []=>Aa _
 | x::l=>by have:=a2I l;cases x;rw[m0,H3,AY]; omega
def E9 (fs:List Sel):List Sel:=fs.flatMap Sel.sub
theorem a3S:∀ fs:List Sel,sizes (E9 fs)≤sizes fs
 | []=>AK _
 | x::l=>by have:=a3S l;cases x;rw[m0,H3,show ∀ k al nm on as ds sub,E9 (Sel.mk k al nm on as ds sub::l)=sub++E9 l from fun _ _ _ _ _ _ _=>rfl,a1I]; omega
theorem b6r (l:List Sel) (i:Nat):sizes (l.take i)≤sizes l:=by have:=a1I (l.take i) (l.drop i);rw[List.take_append_drop]at this;omega
theorem a7F {s:Sel} (h:s.OK):∀ u∈s.sub,u.OK:=by cases h;assumption
theorem c4l {fs:List Sel} (h:∀ s∈fs,s.OK):∀ s∈E9 fs,s.OK:=fun s e=>by obtain⟨f,l,e⟩:=List.mem_flatMap.1 e;exact a7F (h f l) s e
theorem b2K (es:List Sel):∀ i,(s5 es).drop (i*7)=s5 (es.drop i):=by
 induction es with
 | nil=>intro i; simp[s5]
 | cons e es l =>
  intro i;cases i with
  | zero=>rw[Nat.zero_mul,List.drop_zero,List.drop_zero]
  | succ i =>
   rw[List.drop_succ_cons,← l i,show(i+1)*7=7+i*7 by omega,← List.drop_drop,show s5 (e::es)=e.row++s5 es from rfl];have:(e.row++s5 es).drop 7=s5 es:=by have t:=Sel.row_len e;rw[List.drop_append_of_le_length (by omega),List.drop_of_length_le (by omega)];rfl
   rw[this]
theorem d2m (s:Sel):s.row.map AV.weak1=s.row:=by cases s;rw[Sel.row_eq];rfl
theorem b73 {es:List Sel} {i:Nat} (h:i < es.length):(7≤(List.drop (i*7) (s5 es)).length)=True∧List.map AV.weak1 (List.take 7 (List.drop (i*7) (s5 es)))=es[i].row:=by rw[b2K,List.drop_eq_getElem_cons h];have l:=Sel.row_len es[i];have e:s5 (es[i]::es.drop (i+1))=es[i].row++s5 (es.drop (i+1)):=rfl;rw[e];refine⟨by simp; omega,?_⟩;rw[List.take_append_of_le_length (by omega),List.take_of_length_le (by omega),d2m]
theorem d1B {fs:List Sel} (I:∀ s∈fs,s.OK) (J:sizes fs≤90000000) {fo:Nat} {st:St} (h:st[fo]?=some (.cells (s5 fs))) (key:List Nat) :
 EvQ tbl 194 [.agg [.str key,.sl fo 0 fs.length 7]] st (fun a st'=>st'=st∧a=.list false ((E9 fs).map Sel.row)):=by
 have C:=a2I fs;refine wj (fn:=a194) rfl rfl rfl ?_;simp only[b4n,rS];refine wg (fun z fr st'=>st'=st∧∃ (i:Nat) (v4:AV),i≤fs.length∧z=fs.length - i∧fr=[.agg [.str key,.sl fo 0 fs.length 7],.box [.str key,.sl fo 0 fs.length 7],.list true [],.list true ((E9 (fs.take i)).map Sel.row),v4,.sl fo 0 fs.length 7,.int .i64 fs.length,.int .i64 i]) (m:=fs.length) ⟨rfl,0,_,Aa _,rfl,rfl⟩ ?_;rintro z fr st' ⟨rfl,i,v4,hi,rfl,rfl⟩;simp only[b4n];by_cases e:i < fs.length
 · obtain⟨u,l⟩:=b73 e;have v:((i:Int) < (fs.length:Int))=True:=by simp; omega
   have t:E9 (fs.take (i+1))=E9 (fs.take i)++fs[i].sub:=by rw[List.take_add_one,AE e,E9,List.flatMap_append];simp[E9]
   have g1:((E9 (fs.take i)).length+fs[i].sub.length)*128≤2 ^ 47:=by have a1:=a2I (E9 (fs.take (i+1)));have a2:=a3S (fs.take (i+1));have a3:=b6r fs (i+1);rw[t,AF]at a1;rw[t]at a2;exact Nat.le_trans (Nat.mul_le_mul_right 128 (show _≤90000000 by omega)) (by decide)
   have x:k9 7 ((E9 (fs.take i)).map Sel.row)=true:=a8f _;revert l t g1;generalize fs[i]=s;obtain⟨k,al,nm,on,as,ds,sub⟩:=s;intro l t g1;have y:k9 7 (sub.map Sel.row)=true:=a8f _;have g1:((E9 (fs.take i)).length+sub.length)*128≤2 ^ 47:=g1;rw[Sel.row_eq]at l;simp only[b4n,rA,rE,e,v,h,u,l,x,y,AG,g1,k8 (show i+1 < 2 ^ 63 by omega)];exact wd (m':=fs.length - (i+1)) (by omega) ⟨rfl,i+1,_,e,rfl,by rw[t,AW]; rfl⟩
 · rw[List.take_of_length_le (by omega)];simp only[SS,e];refine we ?_;simp only[b4n];exact wc ⟨_,_,rfl,rfl,rfl⟩
def atK (k:Int) (ks:List (List Nat)) (ls:List Val) (n:List Nat):Val:=(if eqI k 6 then(match pI (fun x=>eqN n x) ks with|some i=>ls[i]?|none=>none)else none).getD Val.none
theorem b6Z {k m:Int} {s:List Nat} {ks:List (List Nat)} {ls:List Val} (l:ks.length≤100000000) (e:k=6→ks.length=ls.length) (n:List Nat) (st:St) :
 EvQ tbl 79 [.agg [.int .u8 k,.int .i64 m,.str s,.list false (ks.map d8),.list false (ls.map Val.row)],.str n] st (fun a st'=>st'=st∧∃ b,a=.tuple [.agg (atK k ks ls n).row,.bool b]) :=
 c2f (K:=⟨0,[],[],[],k,m,s,ks,ls,fun _=>[]⟩) ⟨l,e,by simp,by simp⟩ n st
def TRef.depth:TRef→Nat
 | .base _ _=>0
 | .wrap t _=>t.depth+1
theorem c7w (t:TRef) (st:St):EvQ tbl 134 [.agg t.row] st (fun a st'=>st'=st∧a=.str t.bs):=by
 rw[t.row_eta];refine wj (fn:=a134) rfl rfl rfl ?_;simp only[b6u,rS];refine wg (fun l fr st'=>st'=st∧∃ (u:TRef),l=u.depth∧u.bs=t.bs∧fr=[.agg [.str t.nm,.list false t.of,.bool t.bang],.box [.str u.nm,.list false u.of,.bool u.bang],.str []]) (m:=t.depth) ⟨rfl,t,rfl,rfl,rfl⟩ ?_;rintro l fr st' ⟨rfl,u,rfl,e,rfl⟩;cases u with
 | base n b =>simp only[b6u,rE,TRef.nm,TRef.of,TRef.bang,show ltI 0 ((0:Nat):Int)=false from rfl];refine we ?_;simp only[b6u,rE];exact wc ⟨_,_,rfl,rfl,by rw[← e]; rfl⟩
 | wrap u b =>simp only[b6u,rA,rE,TRef.nm,TRef.of,TRef.bang,u.row_eta,show ltI 0 (((0+1:Nat)):Int)=true from rfl];exact wd (m':=u.depth) (by rw[TRef.depth]; omega) ⟨rfl,u,rfl,e,rfl⟩
theorem c9i (i:Nat) (hi:i≤1000000) (st:St):EvQ tbl 191 [.int .i64 (i:Int)] st (fun a st'=>st'=st∧a=.str (M0 (i:Int))):=by
 have l:EvQ tbl 201 [.int .i64 (i:Int),.int .i64 10] st (fun a st'=>st'=st∧a=.str (M0 (i:Int))) :=
  EvQ.of_ext (fn:=a201) rfl rfl (by unfold a8i; exact if_pos ⟨by omega,by omega⟩) ⟨rfl,rfl⟩
 have e:EvQ tbl 203 [.int .i64 (i:Int)] st (fun a st'=>st'=st∧a=.str (M0 (i:Int))):=by refine wj (fn:=a203) rfl rfl rfl ?_;simp only[d4D,rS,rE];refine wa l rfl rfl ?_;rintro _ _ ⟨rfl,rfl⟩;simp only[SS];exact wc ⟨_,_,rfl,rfl,rfl⟩
 refine wj (fn:=a191) rfl rfl rfl ?_;simp only[d39,rS,rE];refine wa e rfl rfl ?_;rintro _ _ ⟨rfl,rfl⟩;simp only[SS];exact wc ⟨_,_,rfl,rfl,rfl⟩
abbrev VF:=TRef→Val→List Sel→List (List Nat)→RS→Val×RS
abbrev a9n:=(Val×Bool)×RS
def N8 (V:VF) (t:TRef) (v:Val) (fs:List Sel) (path:List (List Nat)) (s:RS):a9n:=match V t v fs path s with
 | (out,e)=>if eqI out.kind 0 && t.bang then((Val.none,false),if e.ps.length=s.ps.length then e.prob path 9 else e)else((out,true),e)
def T8 (V:VF) (t:TRef) (fs:List Sel) (path:List (List Nat)):List Val→Nat→List Val→RS→Val×RS
 | [],_,acc,s=>(.mk 5 0 [] [] acc,s)
 | x::xs,i,acc,s=>if s.step.steps≤5000 then(match N8 V t x fs (path++[M0 (i:Int)]) s.step with|((y,ok),e)=>if ok then T8 V t fs path xs (i+1) (acc++[y]) e else(Val.none,e))else(Val.none,s.step)
def T4 (n:List Nat):Val:=.mk 8 0 n [] []
def P5:List Nat:=[95,95,116,121,112,101,110,97,109,101]
def G8:List Nat:=[81,117,101,114,121]
def idN:List Nat:=[105,100]
def a5L:List Sel→List Arg
 | []=>[]
 | x::_=>x.as
def a5v:List Sel→List Nat
 | []=>[]
 | x::_=>x.nm
def Y4 (E:REnv) (V:VF) (typ:List Nat) (x:Ent) (f:FDef) (fs:List Sel) (path:List (List Nat)) (s:RS):a9n :=
 if eqN f.n P5 then((.mk 2 0 typ [] [],true),s)
 else if !eqN typ G8 then N8 V f.t (atK 6 x.ks x.ls f.n) fs path s
 else if f.ar.isEmpty then N8 V f.t (.mk 5 0 [] [] ((E.es.filter fun y=>l6 (E.poss f.t.bs) y.t).map fun y=>T4 y.id)) fs path (E.know s f.t.bs)
 else match E.args f (a5L fs)with
  | (a,e)=>if eqI e 0 then N8 V f.t (T4 (atK a.kind a.names a.vals idN).text) fs path (E.know s f.t.bs)else((Val.none,true),(E.know s f.t.bs).prob path e)
def S2 (E:REnv) (V:VF) (typ:List Nat) (x:Ent) (path:List (List Nat)):List (List Nat×List Sel)→List (List Nat)→List Val→RS→a9n
 | [],ks,ls,s=>((.mk 6 0 [] ks ls,true),s)
 | (key,fs)::gs,ks,ls,s=>match E.fld typ (a5v fs)with
  | none=>S2 E V typ x path gs ks ls s
  | some f=>if s.step.steps≤5000 then(match Y4 E V typ x f fs (path++[key]) s.step with|((v,ok),e)=>if ok then S2 E V typ x path gs (ks++[key]) (ls++[v]) e else((Val.none,false),e))else((Val.none,false),s.step)
def b0o (E:REnv) (n:List Nat) (v:Val):Bool:=if eqN n [73,68]then eqI v.kind 2 else E.fits n v
def valF (E:REnv):Nat→VF
 | 0,_,_,_,_,s=>(Val.none,s)
 | n+1,t,v,fs,path,s=>if eqI v.kind 0 then(v,s)else match t with
  | .wrap u _=>if eqI v.kind 5 then T8 (valF E n) u fs path v.vals 0 [] s else(Val.none,s.prob path 8)
  | .base nm _=>if E.leaf nm then(if b0o E nm v then(v,s)else(Val.none,s.prob path 8))
   else if eqI v.kind 8 then(match a3a E.es v.text with
    | none=>(Val.none,E.know s nm)
    | some x=>if l6 (E.poss nm) x.t then(match S2 E (valF E n) x.t x path (E.grp x.t (E9 fs)) [] [] (E.know s nm)with|((v,_),e)=>(v,e))else(Val.none,E.know s nm))
   else(Val.none,s.prob path 8)
inductive Val.Rng:Val→Prop
 | mk (k n:Int) (s:List Nat) (ks:List (List Nat)) (ls:List Val) (hn:-9223372036854775808≤n∧n≤9223372036854775807) (h:∀ v∈ls,Val.Rng v):Val.Rng (.mk k n s ks ls)
inductive Sel.Rg:Sel→Prop
 | mk (k:Int) (al nm on:List Nat) (as:List Arg) (ds:List Dir) (sub:List Sel) (ha:∀ a∈as,a.v.Rng) (h:∀ s∈sub,Sel.Rg s):Sel.Rg (.mk k al nm on as ds sub)
theorem c6e {fs:List Sel} (h:∀ s∈fs,s.Rg):∀ s∈E9 fs,s.Rg:=fun s e=>by obtain⟨f,t,e⟩:=List.mem_flatMap.1 e;have:=h f t;cases this;rename_i l;exact l s e
structure SelX (N:Nat) (l:List Sel):Prop where
 ok:∀ s∈l,s.OK
 rg:∀ s∈l,s.Rg
 sz:sizes l≤N
def a3Q (x:Ent):Prop:=x.ks.length=x.ls.length∧x.ks.length≤6∧∀ v∈x.ls,VX v
structure REnv.OK (E:REnv) (B:St):Prop where
 ents:EntsAt E.v E.es B
 sorted:T3 E.es
 esl:E.es.length≤1000
 good:∀ e∈E.es,a3Q e
 tvw:E.tv.weak1=E.tv∧E.tv.plain=true∧E.tv.weak=E.tv
 fld:∀ st,Gr B st→∀ typ n,EvQ tbl 84 [.ptr E.so 0,.str typ,.str n] st (fun a st'=>st'=st∧a=.tuple [.agg ((E.fld typ n).getD FDef.none).row,.bool (E.fld typ n).isSome])
 grp:∀ st,Gr B st→∀ typ l,SelX 11000000 l→EvQ tbl 83 [.ptr E.so 0,.agg [.list false E.ops,.list false E.frs],.str typ,.list false (l.map Sel.row),.agg E.vars] st (fun a st'=>Gr st st'∧∃ out gs,a=out.weak∧GrpS st.length st' out gs∧gs.map Grp.pr=E.grp typ l)
 grpx:∀ typ l N,SelX N l→∀ g∈E.grp typ l,g.2≠[]∧SelX (N+2001) g.2
 grpl:∀ typ l,SelX 11000000 l→(E.grp typ l).length≤90000000
 poss:∀ st,Gr B st→∀ n,EvQ tbl 42 [.ptr E.so 0,.str n] st (fun a st'=>st'=st∧a=.list false ((E.poss n).map d8))
 possl:∀ n,(E.poss n).length≤100000000
 leaf:∀ st,Gr B st→∀ n,EvQ tbl 192 [.ptr E.so 0,.str n] st (fun a st'=>st'=st∧a=.bool (E.leaf n))
 fits:∀ st,Gr B st→∀ n v,VX v→EvQ tbl 146 [.ptr E.so 0,.agg [.str n,.list false [],.bool false],.agg v.row] st (fun a st'=>Gr st st'∧a=.bool (E.fits n v))
 knows:∀ st,Gr B st→∀ n,EvQ tbl 19 [.agg [E.v,.bool E.whole,E.tv],.ptr E.so 0,.str n] st (fun a st'=>Gr st st'∧a=.bool (E.knows n))
 args:∀ st,Gr B st→∀ n f,E.fld G8 n=some f→f.ar.isEmpty=false→∀ as,ArgsOK as→(∀ a∈as,a.v.Rng)→EvQ tbl 135 [.ptr E.so 0,.agg f.row,.list false (as.map Arg.row),.agg E.vars] st (fun a st'=>Gr st st'∧∃ s,a=.tuple [.agg (E.args f as).1.row,.str s,.int .i64 (E.args f as).2])
 argsx:∀ f as,(E.args f as).1.names.length≤100000000∧((E.args f as).1.kind=6→(E.args f as).1.names.length=(E.args f as).1.vals.length)
structure Goes (E:REnv) (B:St) (s:RS) (pv:AV) (st:St) (s2:RS) (st':St) (pv':AV):Prop where
 run:RunAt E B s2 pv' st'
 rk:RK B pv st pv' st'
 steps:s.steps≤s2.steps
 few:s2.ps.length≤2*s2.steps
 more:s.ps.length≤s2.ps.length
def c3t (E:REnv) (B:St) (s:RS) (pv:AV) (st:St) (r:Val×RS) (a:AV) (st':St):Prop:=∃ e,a=.agg r.1.row∧Goes E B s pv st r.2 st' e
def b5l (E:REnv) (B:St) (s:RS) (pv:AV) (st:St) (r:a9n) (a:AV) (st':St):Prop:=∃ e,a=.tuple [.agg r.1.1.row,.bool r.1.2]∧Goes E B s pv st r.2 st' e
structure FsAt (B:St) (pv:AV) (st:St) (fo:Nat) (fs:List Sel) (N:Nat):Prop where
 at_:st[fo]?=some (.cells (s5 fs))
 ne:fo≠B.length∧t8 pv≠some fo
 x:fs≠[]∧SelX N fs
theorem FsAt.keep {B:St} {pv l:AV} {st st':St} {fo:Nat} {fs:List Sel} {N M:Nat} (h:FsAt B pv st fo fs N) (u:RK B pv st l st') (v:N≤M):FsAt B l st' fo fs M:=by
 refine⟨u.keep fo _ h.ne.1 h.ne.2 h.at_,⟨h.ne.1,fun t=>?_⟩,h.x.1,h.x.2.ok,h.x.2.rg,Nat.le_trans h.x.2.sz v⟩;rcases u.pv with e|e
 · rw[e]at t; exact h.ne.2 t
 · have:=e fo t;have:=(AB.1 h.at_).1;omega
theorem PAt.len {b:Nat} {pv:AV} {ps:List (List (List Nat)×Int)} {st:St} (h:PAt b pv ps st):∀ (call:b9) (bx:AV) (st:St),H2 call [pv] bx st=some (.int .i64 ps.length,bx,st):=fun call bx st=>by rcases h with⟨rfl,rfl⟩|⟨o,_,rfl,_⟩<;>rfl
theorem a1G {E:REnv} {B:St} {s:RS} {pv:AV} {st:St} (h:RunAt E B s pv st) {t:TRef} {v:Val} {fs:List Sel} {fo:Nat} {key:List Nat} {path:List (List Nat)} (Z:path≠[]) (a0:path.length≤s.steps) (W:s.ps.length+2≤2*s.steps) (V:VF)
 (N:EvQ tbl 174 [.ptr B.length 0,.agg t.row,.agg v.row,.agg [.str key,.sl fo 0 fs.length 7],.list false (path.map d8)] st (c3t E B s pv st (V t v fs path s))) :
 EvQ tbl 133 [.ptr B.length 0,.agg t.row,.agg v.row,.agg [.str key,.sl fo 0 fs.length 7],.list false (path.map d8)] st (b5l E B s pv st (N8 V t v fs path s)):=by
 have I:=h.ob;have Y:=h.le;have C:=h.pr.len;obtain⟨w1,w2,w3,w4,w5,w6,w7⟩:=h.pr.wk;unfold H6 at I;rw[t.row_eta,v.row_eta]at *
 unfold N8;revert N;generalize V t v fs path s=r;obtain⟨out,M⟩:=r;intro N;dsimp only;refine wj (fn:=a133) rfl rfl rfl ?_;simp only[a6H,rA,rS,rE,I,C,w1,w2,w4];refine wa N rfl rfl ?_;rintro _ st2 ⟨y,rfl,e⟩;have u:=e.run.ob;have l:=e.run.pr.len;have z:=e.run.le;have x:=e.more;have J:=e.steps;obtain⟨x1,x2,x3,x4,x5,x6,x7⟩:=e.run.pr.wk;unfold H6 at u;dsimp only at u l z x J;rw[out.row_eta];rcases e8 (eqI out.kind 0 && t.bang)with hc|hc
 · rw[if_pos hc];rw[AA]at hc;simp only[a6H,rA,rE,hc.1,hc.2,u,l,x1,x2,x4];by_cases L:M.ps.length=s.ps.length
   · rw[if_pos L];simp only[a6H,rE,L];refine wa (a2C e.run Z (by omega) (by dsimp only; omega) 9) rfl rfl ?_;rintro _ a1 ⟨U,T,O⟩;simp only[a6H,rA];refine wc ⟨_,_,rfl,U,by rw[Val.none_row]; rfl,T,e.rk.trans O,J,?_,?_⟩
     · show(M.ps++[(path,9)]).length≤2*M.steps;simp; omega
     · show s.ps.length≤(M.ps++[(path,9)]).length;simp; omega
   · rw[if_neg L];simp only[a6H,rA,decide_eq_false L];exact wc ⟨_,_,rfl,y,by rw[Val.none_row]; rfl,e⟩
 · rw[hc,if_neg (by decide)];rcases e8 (eqI out.kind 0)with h0|h0
   · rw[h0,Bool.true_and]at hc;simp only[a6H,rA,rE,h0,hc];exact wc ⟨_,_,rfl,y,by rw[out.row_eta]; rfl,e⟩
   · simp only[a6H,rA,rE,h0];exact wc ⟨_,_,rfl,y,by rw[out.row_eta]; rfl,e⟩
def b2m (E:REnv) (B:St) (n:Nat):Prop:=∀ {s:RS} {pv:AV} {st:St},RunAt E B s pv st→∀ {t:TRef} {v:Val} {fs:List Sel} {fo:Nat} {key:List Nat} {path:List (List Nat)},VX v→FsAt B pv st fo fs (2001*(s.steps+1))→path≠[]→path.length≤s.steps→s.ps.length+2≤2*s.steps→5001 < n+s.steps →
 EvQ tbl 174 [.ptr B.length 0,.agg t.row,.agg v.row,.agg [.str key,.sl fo 0 fs.length 7],.list false (path.map d8)] st (c3t E B s pv st (valF E n t v fs path s))
theorem Ent.Good.x {x:Ent} (h:x.Good):a3Q x:=⟨h.kl,h.le,fun v e=>(h.sm v e).vx⟩
def c7t (E:REnv) (B:St) (n:Nat):Prop:=∀ {s:RS} {pv:AV} {st:St},RunAt E B s pv st→∀ {typ:List Nat} {x:Ent} {l:List Sel} {path:List (List Nat)},a3Q x→SelX (2001*(s.steps+1)) l→path.length≤s.steps→s.ps.length≤2*s.steps→5001 < n+s.steps+1 →
 EvQ tbl 39 [.ptr B.length 0,.str typ,.agg x.row,.list false (l.map Sel.row),.list false (path.map d8)] st (b5l E B s pv st (S2 E (valF E n) typ x path (E.grp typ l) [] [] s))
theorem d0h {E:REnv} {B:St} (t:E.OK B) {s:RS} {pv:AV} {st:St} (h:RunAt E B s pv st) (n:List Nat) {v:Val} (y:VX v):EvQ tbl 193 [.ptr B.length 0,.str n,.agg v.row] st (fun a st'=>Gr st st'∧a=.bool (b0o E n v)):=by
 have e:=h.ob;have u:=t.fits st h.gr n v y;unfold H6 at e;rw[v.row_eta]at *
 unfold b0o;refine wj (fn:=a193) rfl rfl rfl ?_;simp only[c0P,rS,rE];refine wi (fun l=>?_) (fun l=>?_)
 · rw[if_pos l];simp only[c0P,rE];exact wc ⟨_,_,rfl,Gr.refl _,rfl⟩
 · rw[show eqN n [73,68]=false from l,if_neg (by decide)];simp only[c0P,rA,rL,rE,e];refine wa u rfl rfl ?_;rintro _ st2 ⟨x,rfl⟩;simp only[SS];exact wc ⟨_,_,rfl,x,rfl⟩
theorem VX.vals {v:Val} (h:VX v):v.vals.length≤100000∧(∀ u∈v.vals,VX u)∧v.names=[]∧v.kind≠6:=by obtain⟨k,n,s,ls,rfl,e,l,t⟩:=h;exact⟨l,fun u hu=>by obtain⟨k,n,s,rfl,x⟩:=t u hu; exact VX.one x,rfl,e⟩
theorem Goes.refl {E:REnv} {B:St} {s:RS} {pv:AV} {st:St} (h:RunAt E B s pv st) (e:s.ps.length≤2*s.steps):Goes E B s pv st s st pv:=⟨h,RK.refl _ _ _,AK _,e,AK _⟩
theorem Goes.trans {E:REnv} {B:St} {s u v:RS} {pv l t:AV} {st st1 st2:St} (h:Goes E B s pv st u st1 l) (e:Goes E B u l st1 v st2 t):Goes E B s pv st v st2 t:=⟨e.run,h.rk.trans e.rk,Nat.le_trans h.steps e.steps,e.few,Nat.le_trans h.more e.more⟩
theorem Goes.grow {E:REnv} {B:St} {s t:RS} {pv e:AV} {st st1 st2:St} (h:Goes E B s pv st t st1 e) (l:Gr st1 st2):Goes E B s pv st t st2 e:=⟨h.run.grow l,h.rk.trans (RK.of_gr l l.len),h.steps,h.few,h.more⟩
theorem RS.step_le (s:RS):s.steps≤s.step.steps∧s.step.steps≤s.steps+1∧(s.step.steps≤5000→s.step.steps=s.steps+1):=by unfold RS.step;dsimp only;split<;>omega
theorem b0c {E:REnv} {B:St} {s:RS} {pv:AV} {st st':St} (t:s.ps.length≤2*s.steps) (e:RunAt E B s.step pv st') (l:RK B pv st pv st'):Goes E B s pv st s.step st' pv :=
 ⟨e,l,s.step_le.1,by have:=s.step_le.1; show s.ps.length≤_; omega,AK _⟩
theorem a2R {E:REnv} {B:St} {s:RS} {pv:AV} {st:St} {path:List (List Nat)} {e:Int} {l:AV} {st':St} (v:s.ps.length+1≤2*s.steps) (t:RunAt E B (s.prob path e) l st') (u:RK B pv st l st'):Goes E B s pv st (s.prob path e) st' l :=
 ⟨t,u,AK _,by show(s.ps++[(path,e)]).length≤2*s.steps; simp; omega,by show s.ps.length≤(s.ps++[(path,e)]).length; simp⟩
theorem a9N {E:REnv} {B:St} {s:RS} {pv:AV} {st st2:St} (h:RunAt E B s pv st) (t:s.ps.length≤2*s.steps) (u:Gr st st2) (nm:List Nat) :
 ∃ e,Goes E B s pv st (E.know s nm) e pv∧e=if E.knows nm then st2 else st2.set B.length (.cells [.ptr E.so 0,.list false E.ops,.list false E.frs,E.v,.bool E.whole,E.tv,.int .u8 E.vk,.int .i64 E.vn,.str E.vs,.list false E.vks,.list false E.vls,pv,.bool true,.int .i64 s.steps]):=by
 have l:=(Goes.refl h t).grow u;rcases e8 (E.knows nm)with hkn|hkn
 · exact⟨_,by rw[REnv.know,if_pos hkn]; exact l,by rw[if_pos hkn]⟩
 · refine⟨_,?_,by rw[hkn,if_neg (by decide)]⟩;obtain⟨a1,a2⟩:=l.run.put (s':=⟨s.ps,true,s.steps⟩) rfl h.le;rw[REnv.know,hkn,if_neg (by decide)];exact l.trans ⟨a1,a2,AK _,l.few,AK _⟩
theorem b3K (E:REnv) (s:RS) (nm:List Nat):(E.know s nm).steps=s.steps∧(E.know s nm).ps=s.ps:=by unfold REnv.know; split<;>exact⟨rfl,rfl⟩
theorem b7l (s:List Nat) (ks:List (List Nat)):ks.map d8++[[.str s]]=(ks++[s]).map d8:=by rw[AW]; rfl
theorem c0B {E:REnv} {B:St} (Y:E.OK B) {n:Nat} (e3:b2m E B n) (e1:c7t E B n):b2m E B (n+1):=by
 intro s pv st h t v fs fo key path hv b5 hp f3 e5 d3;have b1:=h.ob;have f2:=h.le;obtain⟨f6,e0,f7,f5⟩:=hv.vals;obtain⟨w1,w2,w3,w4,w5,w6,w7⟩:=h.pr.wk;unfold H6 at b1;rw[valF.eq_def];dsimp only;have c1:=fun e=>a2C h hp (by omega) (by omega) e
 have bad:∀ {P:AV×St→Prop},True:=trivial
 rw[t.row_eta,v.row_eta];refine wj (fn:=a174) rfl rfl rfl ?_;simp only[G6,rS,rE];rcases e8 (eqI v.kind 0)with h0|h0
 · rw[if_pos h0];simp only[G6,rA,h0];exact wc ⟨_,_,rfl,pv,by rw[v.row_eta]; rfl,Goes.refl h (by omega)⟩
 rw[h0,if_neg (by decide)];cases t with
 | wrap u b =>
  dsimp only;simp only[G6,rE,TRef.nm,TRef.of,TRef.bang,show ltI 0 (((0+1:Nat)):Int)=true from rfl];rcases e8 (eqI v.kind 5)with h5|h5
  · rw[if_pos h5];simp only[G6,rA,rL,h5,AG];generalize d1:T8 (valF E n) u fs path v.vals 0 [] s=R;refine wg (fun mm fr st'=>∃ (i:Nat) (L:List Val) (s1:RS) (a4 c6 c7 v12 c8:AV),i≤v.vals.length∧mm=v.vals.length - i∧L.length≤i∧Goes E B s pv st s1 st' a4∧R=T8 (valF E n) u fs path (v.vals.drop i) i L s1 ∧
     fr=[.ptr B.length 0,.agg [.str [],.list false [u.row],.bool b],.agg [.int .u8 v.kind,.int .i64 v.num,.str v.text,.list false (v.names.map d8),.list false (v.vals.map Val.row)],.agg [.str key,.sl fo 0 fs.length 7],.list false (path.map d8),.box [.str [],.list false [u.row],.bool b],
      .box [.int .u8 v.kind,.int .i64 v.num,.str v.text,.list false (v.names.map d8),.list false (v.vals.map Val.row)],.box [.str key,.sl fo 0 fs.length 7],.box [.int .u8 0,.int .i64 0,.str [],.list true [],.list true []],.box [.int .u8 5,.int .i64 0,.str [],.list true [],.list true (L.map Val.row)],c6,c7,v12,c8,.undef,.undef,.undef,.list false (v.vals.map Val.row),.int .i64 v.vals.length,.int .i64 i])
     (m:=v.vals.length) ⟨0,[],s,pv,_,_,_,_,Aa _,rfl,AK _,Goes.refl h (by omega),d1.symm,rfl⟩ ?_
    rintro mm fr st1 ⟨i,L,s1,a4,c6,c7,v12,c8,hi,rfl,e4,T,J,rfl⟩;simp only[G6];by_cases W:i < v.vals.length
    rotate_left
    · rw[List.drop_of_length_le (by omega),T8]at J;simp only[SS,W];refine we ?_;simp only[G6,rA];exact wc ⟨_,_,rfl,a4,by rw[J,Val.row_eq]; rfl,J ▸ T⟩
    have e2:=a0G W;have hx:=e0 _ (List.getElem_mem W);rw[List.drop_eq_getElem_cons W,T8]at J;revert e2 hx J;generalize v.vals[i]=x;intro J e2 hx;have f1:i≤100000:=by omega
    rw[x.row_eta]at e2;have f4:=T.steps;have e7:=T.run.le;have d7:=s1.step_le;simp only[G6,rA,rE,W,e2];refine wa (b6Q T.run) rfl rfl ?_;rintro _ st2 ⟨rfl,b2,N⟩;have b3:=b0c T.few b2 N;by_cases c:s1.step.steps≤5000
    rotate_left
    · rw[if_neg c]at J;simp only[G6,rA,decide_eq_false c];refine wh ?_;simp only[SS];exact wc ⟨_,_,rfl,a4,by rw[J,Val.none_row]; rfl,J ▸ T.trans b3⟩
    rw[if_pos c]at J;have d2:=a6s path (by omega) st2;have d5:k9 1 (path.map d8)=true:=a4k path;have g1:((path.map d8).length+1)*16≤2 ^ 47:=by rw[AG]; omega
    have b6:=b5.keep (T.rk.trans N) (M:=2001*(s1.step.steps+1)) (by have:=d7.1; omega);have e9:=T.few;have a3:=a1G b2 (t:=u) (v:=x) (fs:=fs) (fo:=fo) (key:=key) (path:=path++[M0 (i:Int)]) (by simp) (by simp; omega) (by show s1.ps.length+2≤_; omega) (valF E n) (e3 b2 hx b6 (by simp) (by simp; omega) (by show s1.ps.length+2≤_; omega) (by omega));revert a3 J;generalize N8 (valF E n) u x fs (path++[M0 (i:Int)]) s1.step=r;obtain⟨⟨y,ok⟩,s2⟩:=r;intro J a3;dsimp only at J;rw[u.row_eta,x.row_eta,← b7l]at a3;simp only[G6,rA,rE,decide_eq_true c,u.row_eta];refine wa d2 rfl rfl ?_;rintro _ st2 ⟨rfl,rfl⟩;simp only[SS];refine wa (c9i i (by omega) st2) rfl rfl ?_;rintro _ st2 ⟨rfl,rfl⟩;simp only[SS,d5,g1];refine wa a3 rfl rfl ?_;rintro _ O ⟨c4,rfl,z⟩;dsimp only at z;rw[y.row_eta];have b4:=(T.trans b3).trans z;cases ok with
    | false =>rw[if_neg (by decide)]at J;simp only[G6,rA,rE];refine wh ?_;simp only[SS];exact wc ⟨_,_,rfl,c4,by rw[J,Val.none_row]; rfl,J ▸ b4⟩
    | true =>
     rw[if_pos rfl]at J;have d6:k9 5 (L.map Val.row)=true:=a0e L;have g5:((L.map Val.row).length+1)*80≤2 ^ 47:=by rw[AG]; omega
     simp only[G6,rA,rE,d6,g5,k8 (show i+1 < 2 ^ 63 by omega)];exact wd (m':=v.vals.length - (i+1)) (by omega) ⟨i+1,L++[y],s2,c4,_,_,_,_,W,rfl,by simp; omega,b4,J,by rw[AW,AH,AM,y.row_eta]⟩
  · rw[h5,if_neg (by decide)];simp only[G6,rE];refine wa (c1 8) rfl rfl ?_;rintro _ st2 ⟨a0,h2,N⟩;simp only[G6,rA];exact wc ⟨_,_,rfl,a0,by rw[Val.none_row]; rfl,a2R (by omega) h2 N⟩
 | base nm b =>
  dsimp only;simp only[G6,rE,TRef.nm,TRef.of,TRef.bang,show ltI 0 ((0:Nat):Int)=false from rfl,b1];refine wa (Y.leaf st h.gr nm) rfl rfl ?_;rintro _ st ⟨rfl,rfl⟩;rcases e8 (E.leaf nm)with hl|hl
  · rw[if_pos hl];have hq:=d0h Y h nm hv;rw[v.row_eta]at hq;simp only[G6,rA,rE,hl];refine wa hq rfl rfl ?_;rintro _ st2 ⟨hg,rfl⟩;have T:=(Goes.refl h (by omega)).grow hg;rcases e8 (b0o E nm v)with hb|hb
    · rw[if_pos hb];simp only[G6,rA,hb];exact wc ⟨_,_,rfl,pv,by rw[v.row_eta]; rfl,T⟩
    · rw[hb,if_neg (by decide)];simp only[G6,rE];refine wa (a2C T.run hp (by omega) (by omega) 8) rfl rfl ?_;rintro _ O ⟨a0,h2,N⟩;simp only[G6,rA];exact wc ⟨_,_,rfl,a0,by rw[Val.none_row]; rfl,T.trans (a2R (by omega) h2 N)⟩
  rw[hl,if_neg (by decide)];simp only[G6,rE];rcases e8 (eqI v.kind 8)with h8|h8
  rotate_left
  · rw[h8,if_neg (by decide)];simp only[G6,rE];refine wa (c1 8) rfl rfl ?_;rintro _ st2 ⟨a0,h2,N⟩;simp only[G6,rA];exact wc ⟨_,_,rfl,a0,by rw[Val.none_row]; rfl,a2R (by omega) h2 N⟩
  rw[if_pos h8];obtain⟨t1,t2,t3⟩:=Y.tvw;obtain⟨y1,y2,y3,y4,y5,y6,y7⟩:=Y.ents.wk;have pl:(AV.agg [E.v,.bool E.whole,E.tv]).plain=true:=rfl;simp only[G6,rA,rL,rE,h8,b1,t1,y2];refine wa (Y.knows st h.gr nm) (by simp only[R.allPlain_c,R.allPlain_n,R.plain_agg]; rfl) (by simp only[AH,AM,N3,t1,y2]; rfl) ?_;rintro _ st2 ⟨hg,rfl⟩;have T:=(Goes.refl h (by omega)).grow hg;have c2:=a9N h (by omega) hg nm;obtain⟨O,z,I⟩:=c2;have a7:=T.run.ob;unfold H6 at a7;obtain⟨es,ep⟩:=b3K E s nm;revert I;have Z:=z.run.ob;have C:=b5.keep z.rk (M:=2001*((E.know s nm).steps+1)) (by rw[es]; exact AK _);have a6:=z.run.gr;have b0:EntsAt E.v E.es O:=Y.ents.gr a6;have b7:=b5n b0 Y.sorted (by have:=Y.esl; omega) v.text;have U:∀ e,a3a E.es v.text=some e→a3Q e:=fun e he=>Y.good e (a9A he).1
  have c3:=d1B C.x.2.ok (by have:=C.x.2.sz; omega) C.at_ key;have b8:=fun(x:Ent) (hx:a3Q x)=>e1 z.run (typ:=x.t) (x:=x) (l:=E9 fs) (path:=path) hx ⟨c4l C.x.2.ok,c6e C.x.2.rg,Nat.le_trans (a3S fs) C.x.2.sz⟩ (by omega) (by rw[ep,es]; omega) (by omega)
  have e6:∀ r:a9n,∀ a5 a1,Goes E B (E.know s nm) pv O r.2 a5 a1→Goes E B s pv st r.2 a5 a1:=fun r a5 a1 h=>z.trans h
  unfold H6 at Z;rcases e8 (E.knows nm)with hkn|hkn<;>rw[hkn]<;>intro I
  rw[if_pos rfl]at I
  rotate_left
  rw[if_neg (by decide)]at I;all_goals
   simp only[G6,rA,rL,rE,a7];rw[← I];clear I
  all_goals
   simp only[SS,rA,rL,Z,y2];refine wa b7 (by simp only[R.allPlain_c,R.allPlain_n,R.plain_agg]; rfl) (by simp only[AH,AM,N3,y2]; rfl) ?_;rintro _ O ⟨rfl,rfl⟩;revert U;cases f0:a3a E.es v.text with
   | none =>intro _;rw[Option.getD_none];simp only[G6,rA,rE,Ent.none,Ent.row,Option.isSome_none];exact wc ⟨_,_,rfl,pv,by rw[Val.none_row]; rfl,z⟩
   | some x =>
    intro U;have d4:=U x rfl;have c0:=b8 x d4;have ex:x.row=[.str x.t,.str x.id,.list false (x.ks.map d8),.list false (x.ls.map Val.row)]:=rfl;rw[Option.getD_some,ex];rw[ex]at c0;dsimp only;simp only[G6,rA,rE,Option.isSome_some,Z];refine wa (Y.poss _ a6 nm) rfl rfl ?_;rintro _ O ⟨rfl,rfl⟩;simp only[SS];refine wa (J6 (E.poss nm) (Y.possl nm) x.t _) rfl rfl ?_;rintro _ O ⟨rfl,rfl⟩;rcases e8 (l6 (E.poss nm) x.t)with hh|hh
    · rw[if_pos hh];simp only[G6,rA,rE,hh];refine wa c3 rfl rfl ?_;rintro _ O ⟨rfl,rfl⟩;simp only[SS];refine wa c0 rfl rfl ?_;rintro _ a5 ⟨a1,rfl,d0⟩;have a2:=z.trans d0;revert a2;generalize S2 E (valF E n) x.t x path (E.grp x.t (E9 fs)) [] [] (E.know s nm)=r;obtain⟨⟨y,ok⟩,s2⟩:=r;intro a2;dsimp only at a2 ⊢;rw[y.row_eta];simp only[G6,rA];exact wc ⟨_,_,rfl,a1,by rw[y.row_eta]; rfl,a2⟩
    · rw[hh,if_neg (by decide)];simp only[G6,rA];exact wc ⟨_,_,rfl,pv,by rw[Val.none_row]; rfl,z⟩
theorem d0m {x:Ent} (e:a3Q x) (n:List Nat):VX (atK 6 x.ks x.ls n):=by
 unfold atK;rw[if_pos (show eqI 6 6=true from rfl)];cases l:pI (fun y=>eqN n y) x.ks with
 | none=>exact VX.none
 | some i =>
  dsimp only;cases hi:x.ls[i]? with
  | none=>exact VX.none
  | some v=>exact e.2.2 v (List.mem_of_getElem? hi)
theorem b95 {α:Type} (l:List α):eqI (l.length:Int) 0=l.isEmpty:=by
 cases l with
 | nil=>rfl
 | cons a l=>rw[eqI_eq]; simp; omega
theorem c4v {l:List Ent} (e:l.length≤100000):VX (.mk 5 0 [] [] (l.map fun y=>T4 y.id)) :=
 ⟨5,0,[],_,rfl,by decide,by rw[AG]; exact e,fun u hu=>by obtain⟨y,_,rfl⟩:=List.mem_map.1 hu; exact⟨_,_,_,rfl,by decide⟩⟩
theorem EntsAt.len {v:AV} {es:List Ent} {st:St} (h:EntsAt v es st):∀ (call:b9) (bx:AV) (st:St),H2 call [v] bx st=some (.int .i64 es.length,bx,st):=fun call bx st=>by rcases h with⟨rfl,rfl⟩|⟨o,rfl,_⟩<;>rfl
theorem EntsAt.get {v:AV} {es:List Ent} {st:St} (h:EntsAt v es st) {i:Nat} (hi:i < es.length):∃ a,(∀ (call:b9) (bx:AV) (st:St),L0 4 call [v,.int .i64 i] bx st=some (a,bx,st))∧(∀ (call:b9) (bx:AV),J0 true 4 call [a] bx st=some (.agg es[i].row,bx,st))∧a.stripB=a∧a.weak=a:=by
 rcases h with⟨rfl,rfl⟩|⟨o,rfl,e⟩
 · cases hi
 · refine⟨.ptr o (i*4),fun call bx st=>?_,fun call bx=>a2s e hi call bx,rfl,rfl⟩;simp only[L0];rw[if_pos ⟨by omega,by omega,trivial⟩,Int.toNat_natCast,Nat.zero_add]
theorem c1G {E:REnv} {B:St} (W:E.OK B) {n:Nat} (b4:b2m E B n) {s:RS} {pv:AV} {st:St} (h:RunAt E B s pv st) {typ:List Nat} {x:Ent} (hx:a3Q x) {f:FDef} {nm:List Nat} (hf:E.fld typ nm=some f) {fs:List Sel} {fo:Nat} {key:List Nat} {path:List (List Nat)} (c3:FsAt B pv st fo fs (2001*(s.steps+1)))
 (hp:path≠[]) (c8:path.length≤s.steps) (u:s.ps.length+2≤2*s.steps) (b2:5001 < n+s.steps) :
 EvQ tbl 87 [.ptr B.length 0,.str typ,.agg x.row,.agg f.row,.agg [.str key,.sl fo 0 fs.length 7],.list false (path.map d8)] st (b5l E B s pv st (Y4 E (valF E n) typ x f fs path s)):=by
 have e5:=W.esl;have c7:=h.ob;have f1:=h.le;obtain⟨w1,w2,w3,w4,w5,w6,w7⟩:=h.pr.wk;unfold H6 at c7;have hC:=fun(v:Val) (hv:VX v)=>a1G h (t:=f.t) (v:=v) (fs:=fs) (fo:=fo) (key:=key) hp c8 u (valF E n) (b4 h hv c3 hp c8 u b2)
 unfold Y4 P5 G8 idN;obtain⟨v,e,a4⟩:∃ v e,E.args f (a5L fs)=(v,e):=⟨_,_,rfl⟩
 rw[a4];dsimp only;rw[show x.row=[.str x.t,.str x.id,.list false (x.ks.map d8),.list false (x.ls.map Val.row)]from rfl,FDef.row];refine wj (fn:=a87) rfl rfl rfl ?_;simp only[K87,rS,rE];rcases e8 (eqN f.n [95,95,116,121,112,101,110,97,109,101])with h0|h0
 · rw[if_pos h0];simp only[K87,rA,rL,rE,h0];exact wc ⟨_,_,rfl,pv,by rw[Val.row_eq]; rfl,Goes.refl h (by omega)⟩
 rw[h0,if_neg (by decide)];simp only[K87,rE];rcases e8 (eqN typ [81,117,101,114,121])with h1|h1
 rotate_left
 · rw[h1,Bool.not_false,if_pos rfl];have Y:=hC _ (d0m hx f.n);rw[f.t.row_eta,(atK 6 x.ks x.ls f.n).row_eta]at Y;simp only[K87,rA,rL,rE];refine wa (b6Z (k:=6) (by have:=hx.2.1; omega) (fun _=>hx.1) f.n st) rfl rfl ?_;rintro _ st ⟨rfl,b,rfl⟩;rw[(atK 6 x.ks x.ls f.n).row_eta];simp only[K87,rA,rL,rE];refine wa Y rfl rfl ?_;rintro _ st2 ⟨O,rfl,J⟩;revert J;generalize N8 (valF E n) f.t (atK 6 x.ks x.ls f.n) fs path s=r;obtain⟨⟨y,ok⟩,s2⟩:=r;intro J;dsimp only at J ⊢;rw[y.row_eta];simp only[SS,rA];exact wc ⟨_,_,rfl,O,by rw[y.row_eta]; rfl,J⟩
 rw[h1,Bool.not_true,if_neg (by decide)];have hb:=c7w f.t st;rw[f.t.row_eta]at hb;simp only[K87,rA,rL,rE];refine wa hb rfl rfl ?_;rintro _ st ⟨rfl,rfl⟩;obtain⟨t1,t2,t3⟩:=W.tvw;obtain⟨y1,y2,y3,y4,y5,y6,y7⟩:=W.ents.wk;simp only[K87,rA,rL,rE,c7,t1,y2];refine wa (W.knows st h.gr f.t.bs) (by simp only[R.allPlain_c,R.allPlain_n,R.plain_agg]; rfl) (by simp only[AH,AM,N3,t1,y2]; rfl) ?_;rintro _ st2 ⟨hg,rfl⟩;obtain⟨b5,I,C⟩:=a9N h (by omega) hg f.t.bs;have a6:=((Goes.refl h (by omega)).grow hg).run.ob;obtain⟨es,ep⟩:=b3K E s f.t.bs;have T:=I.run.ob;have z:=c3.keep I.rk (M:=2001*((E.know s f.t.bs).steps+1)) (by rw[es]; exact AK _);have a0:=I.run.gr;have Z:EntsAt E.v E.es b5:=W.ents.gr a0;have e0:=fun(v:Val) (hv:VX v)=>a1G I.run (t:=f.t) (v:=v) (fs:=fs) (fo:=fo) (key:=key) hp (by omega) (by rw[ep,es]; exact u) (valF E n) (b4 I.run hv z hp (by omega) (by rw[ep,es]; exact u) (by omega))
 unfold H6 at a6 T;revert C;rcases e8 (E.knows f.t.bs)with hkn|hkn<;>rw[hkn]<;>intro C
 rw[if_pos rfl]at C
 rotate_left
 rw[if_neg (by decide)]at C;all_goals
  simp only[K87,rA,rL,rE,a6,b95];rw[← C];clear C;rcases e8 f.ar.isEmpty with ha|ha
  · rw[if_pos ha];simp only[K87,rA,rL,rE,ha,T,Z.len,y1,y2,y3];refine wg (fun mm fr st'=>st'=b5∧∃ (i:Nat) (d4:AV),i≤E.es.length∧mm=E.es.length - i ∧
     fr=[.ptr B.length 0,.str typ,.agg [.str x.t,.str x.id,.list false (x.ks.map d8),.list false (x.ls.map Val.row)],.agg [.str f.n,.list false f.ar,.str f.t.nm,.list false f.t.of,.bool f.t.bang,.bool f.has,.int .u8 f.v.kind,.int .i64 f.v.num,.str f.v.text,.list false (f.v.names.map d8),.list false (f.v.vals.map Val.row)],
      .agg [.str key,.sl fo 0 fs.length 7],.list false (path.map d8),.box [.str x.t,.str x.id,.list false (x.ks.map d8),.list false (x.ls.map Val.row)],.box [.str f.n,.list false f.ar,.str f.t.nm,.list false f.t.of,.bool f.t.bang,.bool f.has,.int .u8 f.v.kind,.int .i64 f.v.num,.str f.v.text,.list false (f.v.names.map d8),.list false (f.v.vals.map Val.row)],
      .box [.str key,.sl fo 0 fs.length 7],.box [.int .u8 0,.int .i64 0,.str [],.list true [],.list true []],.bool false,.undef,.str f.t.bs,.box [.int .u8 5,.int .i64 0,.str [],.list true [],.list true ((((E.es.take i).filter fun y=>l6 (E.poss f.t.bs) y.t).map fun y=>T4 y.id).map Val.row)],d4,.undef,.undef,.undef,E.v,.int .i64 E.es.length,.int .i64 i])
     (m:=E.es.length) ⟨rfl,0,_,Aa _,rfl,rfl⟩ ?_
    rintro mm fr d2 ⟨rfl,i,d4,hi,rfl,rfl⟩;simp only[K87];by_cases U:i < E.es.length
    rotate_left
    · rw[List.take_of_length_le (by omega)];have b3:=c4v (l:=E.es.filter fun y=>l6 (E.poss f.t.bs) y.t) (Nat.le_trans (List.length_filter_le _ _) (by have:=W.esl; omega));have Y:=e0 _ b3;rw[f.t.row_eta,Val.row_eq,AM]at Y;revert Y;generalize ((E.es.filter fun y=>l6 (E.poss f.t.bs) y.t).map fun y=>T4 y.id)=L;intro Y;simp only[SS,U];refine we ?_;simp only[K87,rA,rL,rE];refine wa Y rfl rfl ?_;rintro _ st2 ⟨O,rfl,J⟩;have J:=I.trans J;revert J;generalize N8 (valF E n) f.t (.mk 5 0 [] [] L) fs path (E.know s f.t.bs)=r;obtain⟨⟨y,ok⟩,s2⟩:=r;intro J;dsimp only at J ⊢;rw[y.row_eta];simp only[SS,rA];exact wc ⟨_,_,rfl,O,by rw[y.row_eta]; rfl,J⟩
    obtain⟨a,d5,c0,d6,d7⟩:=Z.get U;have e3:E.es.take (i+1)=E.es.take i++[E.es[i]]:=by rw[List.take_add_one,AE U]; rfl
    have e7:((((E.es.take i).filter fun y=>l6 (E.poss f.t.bs) y.t).map fun y=>T4 y.id).map Val.row).length≤1000:=by rw[AG,AG];have:=List.length_filter_le (fun y=>l6 (E.poss f.t.bs) y.t) (E.es.take i);rw[AP]at this;have:=W.esl;omega
    have a1:k9 5 ((((E.es.take i).filter fun y=>l6 (E.poss f.t.bs) y.t).map fun y=>T4 y.id).map Val.row)=true:=a0e _;have a3:∀ e:Ent,E.es[i]=e→∀ (w:AV) b,l6 (E.poss f.t.bs) e.t=b→(((E.es.take (i+1)).filter fun y=>l6 (E.poss f.t.bs) y.t).map fun y=>T4 y.id).map Val.row=(((E.es.take i).filter fun y=>l6 (E.poss f.t.bs) y.t).map fun y=>T4 y.id).map Val.row++(if b then [[.int .u8 8,.int .i64 0,.str e.id,.list false [],.list false []]]else []):=fun e he w b hb=>by
     rw[e3,he,List.filter_append,AW,AW];cases b
     · simp[hb]
     · simp[hb,T4,Val.row_eq]
    have e9:l6 (E.poss f.t.bs)=l6 (E.poss f.t.bs):=rfl;generalize e6:E.es[i]=e at *
    have a3:=a3 e rfl .undef;have ee:e.row=[.str e.t,.str e.id,.list false (e.ks.map d8),.list false (e.ls.map Val.row)]:=rfl;rw[ee]at c0;have g5:((((E.es.take i).filter fun y=>l6 (E.poss f.t.bs) y.t).map fun y=>T4 y.id).map Val.row).length+1≤1001:=by omega
    simp only[K87,rA,rE,U,y1,d5,c0,d6,d7,T];refine wa (W.poss _ a0 f.t.bs) rfl rfl ?_;rintro _ d2 ⟨rfl,rfl⟩;simp only[SS];refine wa (J6 (E.poss f.t.bs) (W.possl _) e.t _) rfl rfl ?_;rintro _ d2 ⟨rfl,rfl⟩;rcases e8 (l6 (E.poss f.t.bs) e.t)with hh|hh
    · simp only[K87,rA,rL,rE,hh,a1,show(((((E.es.take i).filter fun y=>l6 (E.poss f.t.bs) y.t).map fun y=>T4 y.id).map Val.row).length+1)*80≤2 ^ 47 by omega,k8 (show i+1 < 2 ^ 63 by omega)];exact wd (m':=E.es.length - (i+1)) (by omega) ⟨rfl,i+1,_,U,rfl,by rw[a3 _ hh]; rfl⟩
    · simp only[K87,hh,k8 (show i+1 < 2 ^ 63 by omega)];exact wd (m':=E.es.length - (i+1)) (by omega) ⟨rfl,i+1,_,U,rfl,by rw[a3 _ hh,if_neg (by decide),List.append_nil]⟩
  · rw[ha,if_neg (by decide)];obtain⟨k0,b6,d0,d1,N,b7,a7,b0,rfl⟩:∃ k al nm on as ds sub b8,fs=Sel.mk k al nm on as ds sub::b8:=by
     cases fs with
     | nil=>exact absurd rfl z.x.1
     | cons s b8=>obtain⟨k,al,nm,on,as,ds,sub⟩:=s; exact⟨_,_,_,_,_,_,_,_,rfl⟩
    have has:ArgsOK N:=by have:=z.x.2.ok _ (List.mem_cons_self ..);cases this;assumption
    have e2:∀ a∈N,a.v.Rng:=by have:=z.x.2.rg _ (List.mem_cons_self ..);cases this;assumption
    have c2:=z.at_;have b1:s5 (Sel.mk k0 b6 d0 d1 N b7 a7::b0)=[.int .u8 k0,.str b6,.str d0,.str d1,.list false (N.map Arg.row),.list false (b7.map Dir.row),.list false (a7.map Sel.row)]++s5 b0:=by rw[← Sel.row_eq]; rfl
    rw[b1]at c2;have c6:((0:Int) < ((b0.length+1:Nat):Int))=True:=by simp only[eq_iff_iff,iff_true]; omega
    have hq:=W.args b5 a0 nm f (by rw[← hf,(B6 _ _).1 h1]; rfl) ha N has e2;unfold REnv.vars FDef.row at hq;have a5:=W.argsx f N;have a4:E.args f N=(v,e):=a4;rw[a4]at hq a5;dsimp only at hq a5;rw[v.row_eta]at hq;simp only[K87,rA,rL,rE,T,c6,Nat.zero_mul,c2];refine wa hq rfl rfl ?_;rintro _ d3 ⟨a2,w,rfl⟩;have c1:=I.grow a2;have a1:=I.run.grow a2;have c4:=z.keep (RK.of_gr a2 a2.len) (AK _);simp only[K87,rA,rE];rcases e8 (eqI e 0)with he|he
    · rw[if_pos he];have b3:VX (T4 (atK v.kind v.names v.vals [105,100]).text):=VX.one (by decide);have Y:=a1G a1 (t:=f.t) (v:=T4 (atK v.kind v.names v.vals [105,100]).text) (fo:=fo) (key:=key) hp (by omega) (by rw[ep,es]; exact u) (valF E n) (b4 a1 b3 c4 hp (by omega) (by rw[ep,es]; exact u) (by omega));revert Y;generalize f0:N8 (valF E n) f.t (T4 (atK v.kind v.names v.vals [105,100]).text) _ path (E.know s f.t.bs)=r;obtain⟨⟨y,ok⟩,s2⟩:=r;unfold T4;rw[f.t.row_eta,Val.row_eq,AM,AM];intro Y;simp only[K87,rA,rE,he];refine wa (b6Z a5.1 a5.2 [105,100] d3) rfl rfl ?_;rintro _ d3 ⟨rfl,b,rfl⟩;rw[(atK v.kind v.names v.vals [105,100]).row_eta];simp only[K87,rA,rL,rE];refine wa Y rfl rfl ?_;rintro _ e4 ⟨O,rfl,J⟩;have J:=c1.trans J;dsimp only at J ⊢;rw[y.row_eta];simp only[SS,rA];exact wc ⟨_,_,rfl,O,by rw[y.row_eta]; rfl,J⟩
    · rw[he,if_neg (by decide)];simp only[K87,rE];refine wa (a2C a1 hp (by omega) (by rw[ep]; omega) e) rfl rfl ?_;rintro _ e4 ⟨O,h2,e1⟩;simp only[K87,rA];exact wc ⟨_,_,rfl,O,by rw[Val.none_row]; rfl,c1.trans (a2R (by rw[ep,es]; omega) h2 e1)⟩
structure Beside (B:St) (pv:AV) (st:St) (i:Nat) (x:Cb.Obj):Prop where
 at_:st[i]?=some x
 ne:i≠B.length∧t8 pv≠some i
theorem Beside.keep {B:St} {pv l:AV} {st st':St} {i:Nat} {x:Cb.Obj} (h:Beside B pv st i x) (u:RK B pv st l st'):Beside B l st' i x:=by
 refine⟨u.keep i _ h.ne.1 h.ne.2 h.at_,h.ne.1,fun t=>?_⟩;rcases u.pv with e|e
 · rw[e]at t; exact h.ne.2 t
 · have:=e i t;have:=(AB.1 h.at_).1;omega
theorem RunAt.beside {E:REnv} {B:St} {s:RS} {pv:AV} {st:St} (h:RunAt E B s pv st) {i:Nat} (hi:st.length≤i):i≠B.length∧t8 pv≠some i :=
 ⟨by have:=(AB.1 h.ob).1; omega,fun e=>by have:=(h.pr.root i e).2; omega⟩
theorem Goes.other {E:REnv} {B:St} {s I:RS} {pv l:AV} {st st1:St} (h:Goes E B s pv st I st1 l) (M:B.length < st.length) {i:Nat} (hi:st.length≤i) (L:t8 l≠some i) (x:Cb.Obj):Goes E B s pv st I (st1.set i x) l:=by
 have v:∀ j y,j≠i→st1[j]?=some y→(st1.set i x)[j]?=some y:=fun j y C N=>by rw[List.getElem?_set_ne (by omega)]; exact N
 refine⟨⟨v _ _ (by omega) h.run.ob,?_,fun j y C=>v j y (by have:=(AB.1 C).1; omega) (h.run.gr j y C),h.run.le,h.run.pl⟩,⟨fun j y z t u=>v j y (by have:=(AB.1 u).1; omega) (h.rk.keep j y z t u),by rw[Ab]; exact h.rk.len,h.rk.pv⟩,h.steps,h.few,h.more⟩;rcases h.run.pr with J|⟨o,z,t,u⟩
 · exact .inl J
 · exact .inr ⟨o,z,t,v o _ (fun e=>L (by rw[t,e]; rfl)) u⟩
theorem c1B {gs:List Grp} {i:Nat} (hi:i < gs.length):(2≤(List.drop (i*2) (B0 gs)).length)=True∧List.map AV.weak1 (List.take 2 (List.drop (i*2) (B0 gs)))=[.str gs[i].key,.sl gs[i].fo 0 gs[i].fs.length 7]:=by have h:=a3h gs i;rw[List.drop_eq_getElem_cons hi,H9]at h;rw[h];exact⟨by simp,rfl⟩
theorem GrpS.w {c:Nat} {st:St} {out:AV} {gs:List Grp} (h:GrpS c st out gs):∃ (w:AV) (go:Nat),out.weak=w∧w.strip=w∧w.weak=w∧(∀ (call:b9) (bx:AV) (st:St),H2 call [w] bx st=some (.int .i64 gs.length,bx,st)) ∧
 (gs≠[]→c < go∧st[go]?=some (.cells (B0 gs))∧∀ i:Nat,i < gs.length→∀ (call:b9) (bx:AV) (st:St),L0 2 call [w,.int .i64 i] bx st=some (.ptr go (i*2),bx,st)):=by
 rcases h.out with⟨rfl,rfl⟩|⟨o,rfl,e,l,_⟩
 · exact⟨.list false [],0,rfl,rfl,rfl,fun _ _ _=>rfl,fun h=>absurd rfl h⟩
 · refine⟨.sl o 0 gs.length 2,o,rfl,rfl,rfl,fun _ _ _=>rfl,fun _=>⟨e,l,fun i hi call bx st=>?_⟩⟩;simp only[L0];rw[if_pos ⟨by omega,by omega,trivial⟩,Int.toNat_natCast,Nat.zero_add]
theorem Beside.other {B:St} {pv:AV} {st:St} {i j:Nat} {x y:Cb.Obj} (h:Beside B pv st i x) (e:j≠i):Beside B pv (st.set j y) i x:=⟨by rw[List.getElem?_set_ne e]; exact h.at_,h.ne⟩
theorem Beside.put {B:St} {pv:AV} {st:St} {i:Nat} {x y:Cb.Obj} (h:Beside B pv st i x):Beside B pv (st.set i y) i y:=⟨List.getElem?_set_self (AB.1 h.at_).1,h.ne⟩
theorem c6u (d o:Nat) (call:b9) (bx:AV) (st:St):G4 d call [.ptr o d,.ptr o 0] bx st=E6 call [.ptr o d] bx st:=by simp only[G4];rw[if_pos ⟨by simp,by simp⟩]
theorem a9T {E:REnv} {B:St} (hE:E.OK B) {n:Nat} (h7:b2m E B n):c7t E B n:=by
 intro s pv st h typ x l path hx hl i6 e0 h1;have c4:=h.ob;have i4:=h.le;have h3:B.length < st.length:=(AB.1 c4).1;obtain⟨w1,w2,w3,w4,w5,w6,w7⟩:=h.pr.wk;have g4:=Goes.refl h e0;have c3:=m2 (y:=E4 [] []) c4;have e3:=hE.grpl typ l ⟨hl.ok,hl.rg,Nat.le_trans hl.sz (by omega)⟩;have e6:=hE.grpx typ l _ hl;have b7:=hE.grp (st++[E4 [] []]) (fun i y hy=>m2 (h.gr i y hy)) typ l ⟨hl.ok,hl.rg,Nat.le_trans hl.sz (by omega)⟩;unfold H6 at c4 c3;unfold REnv.vars at b7;rw[show x.row=[.str x.t,.str x.id,.list false (x.ks.map d8),.list false (x.ls.map Val.row)]from rfl];unfold E4 at *
 rw[AM,AM]at *
 refine wj (fn:=a39) rfl rfl rfl ?_;simp only[K39,rA,rS,rL,rE,p9,U1,c3];refine wa b7 rfl rfl ?_;rintro _ st1 ⟨b6,out,gs,rfl,O,e5⟩;obtain⟨w,go,ew,q1,q2,f1,a1⟩:=O.w;rw[ew];have i0:gs.length≤90000000:=by rw[← e5,AG]at e3; exact e3
 rw[← e5]at e6 ⊢;have d5:Beside B pv st1 st.length (E4 [] []):=⟨b6 _ _ (p9 _ _),h.beside (AK _)⟩;have e1:Gr st st1:=fun i y hy=>b6 i y (m2 hy)
 have M:gs≠[]→Beside B pv st1 go (.cells (B0 gs)):=fun v=>⟨(a1 v).2.1,h.beside (by have:=(a1 v).1; simp at this; omega)⟩
 have L:∀ g∈gs,Beside B pv st1 g.fo (.cells (s5 g.fs)):=fun g hg=>⟨(O.fs g hg).2,h.beside (by have:=(O.fs g hg).1; simp at this; omega)⟩
 have h0:∀ g∈gs,st.length≠g.fo:=fun g hg=>by have:=(O.fs g hg).1; simp at this; omega
 have h2:gs≠[]→st.length≠go:=fun v=>by have:=(a1 v).1; simp at this; omega
 have d1:=g4.grow e1;simp only[SS,q1,q2,f1];clear b7 O b6 c3;generalize d2:S2 E (valF E n) typ x path (gs.map Grp.pr) [] [] s=RR;refine wg (fun mm fr st'=>∃ (i:Nat) (ks:List (List Nat)) (ls:List Val) (Y:RS) (I v9 f4 f5 v12 f6 f7:AV),i≤gs.length∧mm=gs.length - i∧ks.length≤i∧ls.length≤i∧Goes E B s pv st Y st' I∧Beside B I st' st.length (E4 ks ls)∧(gs≠[]→Beside B I st' go (.cells (B0 gs)))∧(∀ g∈gs,Beside B I st' g.fo (.cells (s5 g.fs)))∧RR=S2 E (valF E n) typ x path ((gs.drop i).map Grp.pr) ks ls Y ∧
  fr=[.ptr B.length 0,.str typ,.agg [.str x.t,.str x.id,.list false (x.ks.map d8),.list false (x.ls.map Val.row)],.list false (l.map Sel.row),.list false (path.map d8),.box [.str x.t,.str x.id,.list false (x.ks.map d8),.list false (x.ls.map Val.row)],.box [.int .u8 0,.int .i64 0,.str [],.list true [],.list true []],.bool false,.ptr st.length 0,v9,f4,f5,v12,f6,f7,w,.int .i64 gs.length,.int .i64 i])
  (m:=gs.length) ⟨0,[],[],s,pv,_,_,_,_,_,_,Aa _,rfl,AK _,AK _,d1,d5,M,L,d2.symm,rfl⟩ ?_
 clear M L d5 d2 d1;rintro mm fr st1 ⟨i,ks,ls,Y,I,v9,f4,f5,v12,f6,f7,hi,rfl,i3,i5,W,b4,M,L,u,rfl⟩;have d3:=b4.at_;unfold E4 at d3;simp only[K39];by_cases z:i < gs.length
 rotate_left
 · rw[List.drop_of_length_le (by omega),AM,S2]at u;simp only[SS,z];refine we ?_;simp only[K39,rA,d3];exact wc ⟨_,_,rfl,I,by rw[u,Val.row_eq]; rfl,u ▸ W⟩
 have v:gs≠[]:=fun e=>by rw[e]at z; cases z
 have e4:=List.getElem_mem z;have g5:=(M v).at_;have h9:=(a1 v).2.2 i z;obtain⟨c1,c2⟩:=c1B z;have C:=L _ e4;obtain⟨N,J⟩:=e6 _ (List.mem_map_of_mem (f:=Grp.pr) e4);rw[List.drop_eq_getElem_cons z,AH]at u;have a7:=k8 (show i+1 < 2 ^ 63 by omega);revert c2 C N J u;generalize gs[i]=g;obtain⟨key,fo,fs⟩:=g;intro u c2 C N J;dsimp only[Grp.pr]at u c2 C N J;obtain⟨k0,f8,a0,h8,f9,g0,f3,g3,b2⟩:∃ k al nm on as ds sub c7,fs=Sel.mk k al nm on as ds sub::c7:=by
  cases fs with
  | nil=>exact absurd rfl N
  | cons s c7=>obtain⟨k,al,nm,on,as,ds,sub⟩:=s; exact⟨_,_,_,_,_,_,_,_,rfl⟩
 have b5:s5 fs=[.int .u8 k0,.str f8,.str a0,.str h8,.list false (f9.map Arg.row),.list false (g0.map Dir.row),.list false (f3.map Sel.row)]++s5 g3:=by rw[b2,← Sel.row_eq]; rfl
 have e7:((0:Int) < (fs.length:Int))=True:=by rw[b2,AY]; simp only[eq_iff_iff,iff_true]; omega
 have g7:a5v fs=a0:=by rw[b2]; rfl
 have d4:=C.at_;rw[b5]at d4;rw[S2,g7]at u;have b1:=W.run.ob;unfold H6 at b1;simp only[K39,rA,rE,z,q2,h9,g5,c1,c2,b1,e7,Nat.zero_mul,d4];refine wa (hE.fld _ W.run.gr typ a0) rfl rfl ?_;rintro _ st1 ⟨rfl,rfl⟩;revert u;cases g6:E.fld typ a0 with
 | none =>intro u;dsimp only at u;rw[Option.getD_none];simp only[K39,rA,rE,FDef.none,FDef.row,Val.none,Val.kind,Val.num,Val.text,Val.names,Val.vals,TRef.nm,TRef.of,TRef.bang,Option.isSome_none,a7];exact wd (m':=gs.length - (i+1)) (by omega) ⟨i+1,ks,ls,Y,I,_,_,_,_,_,_,z,rfl,by omega,by omega,W,b4,M,L,u,rfl⟩
 | some f =>
  intro u;dsimp only at u;rw[Option.getD_some];have i7:=Y.step_le;have i9:=W.steps;have i1:=W.run.le;have i2:=W.few;simp only[K39,rA,rE,FDef.row,Option.isSome_some];refine wa (b6Q W.run) rfl rfl ?_;rintro _ st2 ⟨rfl,f0,b8⟩;have c8:=W.trans (b0c W.few f0 b8);by_cases c:Y.step.steps≤5000
  rotate_left
  · rw[if_neg c]at u;simp only[K39,rA,decide_eq_false c];refine wh ?_;simp only[SS];exact wc ⟨_,_,rfl,I,by rw[u,Val.none_row]; rfl,u ▸ c8⟩
  rw[if_pos c]at u;have h4:k9 1 (path.map d8)=true:=a4k path;have g1:((path.map d8).length+1)*16≤2 ^ 47:=by rw[AG]; omega
  have a3:=C.keep b8;have e9:Y.step.ps.length+2≤2*Y.step.steps:=by show Y.ps.length+2≤_; omega
  have Z:=c1G hE h7 f0 (typ:=typ) hx g6 (fs:=fs) (fo:=fo) (key:=key) (path:=path++[key]) ⟨a3.at_,a3.ne,N,J.ok,J.rg,Nat.le_trans J.sz (by omega)⟩ (by simp) (by simp; omega) e9 (by omega);rw[show x.row=[.str x.t,.str x.id,.list false (x.ks.map d8),.list false (x.ls.map Val.row)]from rfl,FDef.row,← b7l]at Z;revert Z u;generalize Y4 E (valF E n) typ x f fs (path++[key]) Y.step=r;obtain⟨⟨y,ok⟩,s2⟩:=r;intro u Z;dsimp only at u;simp only[K39,rE,decide_eq_true c];refine wa (a6s path (by omega) st2) rfl rfl ?_;rintro _ st2 ⟨rfl,rfl⟩;simp only[K39,rA,rE,h4,g1];refine wa Z rfl rfl ?_;rintro _ f2 ⟨c6,rfl,b3⟩;dsimp only at b3;have d0:=c8.trans b3;have c0:=b8.trans b3.rk;have U:=b4.keep c0;have d7:=fun v=>(M v).keep c0
  have d6:=fun g hg=>(L g hg).keep c0
  rw[y.row_eta];cases ok with
  | false =>rw[if_neg (by decide)]at u;simp only[K39,rA,rE];refine wh ?_;simp only[SS];exact wc ⟨_,_,rfl,c6,by rw[u,Val.none_row]; rfl,u ▸ d0⟩
  | true =>
   rw[if_pos rfl]at u;have T:=U.at_;have e2:∀ y:Cb.Obj,(f2.set st.length y)[st.length]?=some y:=fun y=>List.getElem?_set_self (AB.1 T).1
   have h5:k9 1 (ks.map d8)=true:=a4k ks;have h6:k9 5 (ls.map Val.row)=true:=a0e ls;have gk:((ks.map d8).length+1)*16≤2 ^ 47:=by rw[AG]; omega
   have gl:((ls.map Val.row).length+1)*80≤2 ^ 47:=by rw[AG]; omega
   have b0:=d0.other h3 (AK st.length) (U.ne.2) (E4 (ks++[key]) (ls++[y]));have a2:E4 (ks++[key]) (ls++[y])=.cells [.int .u8 6,.int .i64 0,.str [],.list true (ks.map d8++[[.str key]]),.list true (ls.map Val.row++[[.int .u8 y.kind,.int .i64 y.num,.str y.text,.list false (y.names.map d8),.list false (y.vals.map Val.row)]])]:=by unfold E4;rw[AW,AW,AH,AM,AH,AM,y.row_eta];rfl
   have a6:Beside B c6 (f2.set st.length (E4 (ks++[key]) (ls++[y]))) st.length (E4 (ks++[key]) (ls++[y])):=U.put;have a5:=fun v=>(d7 v).other (y:=E4 (ks++[key]) (ls++[y])) (h2 v)
   have a4:=fun g hg=>(d6 g hg).other (y:=E4 (ks++[key]) (ls++[y])) (h0 g hg)
   unfold E4 at T;rw[a2]at b0 a6 a5 a4;simp only[K39,rA,rL,rE,T,c6u,e2,h5,h6,gk,gl,List.set_set,a7];exact wd (m':=gs.length - (i+1)) (by omega) ⟨i+1,ks++[key],ls++[y],s2,c6,_,_,_,_,_,_,z,rfl,by simp; omega,by simp; omega,b0,by rw[a2]; exact a6,a5,a4,u,rfl⟩
end Go.Cb.CodeA
