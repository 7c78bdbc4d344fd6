import Derived.Test.YtlegecilkicppaaGreatDoorBaseW
import Derived.Test.YtlegecilkicppaaGreatDoorQxK
set_option maxRecDepth 20000
set_option linter.all false
namespace Go.Cb.CodeA
open Go Go.Cb
open Nat renaming reduceAdd→rA,reduceSub→rS,reduceLeDiff→rL,reduceEqDiff→rE
attribute [local congr] F1 H7 L1 K5 H5 H1 O7 N7 V.runR_congr
structure Ent where
 t:List Nat
 id:List Nat
 ks:List (List Nat)
 ls:List Val
def Ent.row (e:Ent):List AV:=[.str e.t,.str e.id,.list false (e.ks.map r6),.list false (e.ls.map Val.row)]
def TB:Nat:=2 ^ 47
def Small (v:Val):Prop:=∃ k n s ls,v=.mk k n s [] ls∧((k≠6∧s.length≤TB)∧(k≠5→ls=[]))∧ls.length≤6∧∀ u∈ls,∃ k n s,u=.mk k n s [] []∧k≠6∧s.length≤TB
def personK:List (List Nat):=[[97,103,101],[102,114,105,101,110,100,115],[109,111,111,100],[110,97,109,101],[112,101,116],[116,97,103,115]]
def catK:List (List Nat):=[[108,105,118,101,115],[110,97,109,101],[111,119,110,101,114]]
def dogK:List (List Nat):=[[98,97,114,107,115]]
def idsL:List (List Nat):=[[97],[98],[99],[100],[101],[49,48],[57],[]]
def Fam (t:List Nat) (ks:List (List Nat)):Prop:=(t=[80,101,114,115,111,110]∧ks.Sublist personK)∨t=[67,97,116]∨t=[68,111,103]
theorem Fam.sub {t:List Nat} {ks i:List (List Nat)} (h:Fam t ks) (hs:i.Sublist ks):Fam t i:=by
 rcases h with⟨h,j⟩|h
 · exact .inl ⟨h,hs.trans j⟩
 · exact .inr h
theorem b8Z {ks K:List (List Nat)} {i:Nat} (hi:i < ks.length) (h:K.Sublist (ks.take i)):(K++[ks[i]]).Sublist (ks.take (i+1))∧K.Sublist (ks.take (i+1)):=by rw[List.take_add_one,List.getElem?_eq_getElem hi];exact⟨h.append (List.Sublist.refl _),h.trans (List.sublist_append_left _ _)⟩
structure Ent.Good (e:Ent):Prop where
 kl:e.ks.length=e.ls.length
 fam:Fam e.t e.ks
 idl:e.id∈idsL
 le:e.ks.length≤6
 sm:∀ v∈e.ls,Small v
theorem b58 {ls:List Val} {i:Nat} (h:i < ls.length):(ls.map Val.row)[i]?=some (ls[i]).row:=by rw[List.getElem?_map,List.getElem?_eq_getElem h]; rfl
theorem b6g {ks:List (List Nat)} {i:Nat} (h:i < ks.length):(ks.map r6)[i]?=some [.str ks[i]]:=by rw[List.getElem?_map,List.getElem?_eq_getElem h]; rfl
theorem z2:((2:Int)=0)=False:=by simp
theorem z4:((4:Int)=0)=False:=by simp
theorem z5:((5:Int)=0)=False:=by simp
theorem z7:((7:Int)=0)=False:=by simp
theorem z8:((8:Int)=0)=False:=by simp
theorem z16:((16:Int)=0)=False:=by simp
theorem b7N {t d n:Int} {s:List Nat} {own:Bool} {refs:List (List AV)} {lack:Int} (e:Ent) (D:e.Good) (o1 o2:Bool) (v0 v3 v5 V W Y v9 E N v12 O R F G:AV) (st:St) :
 WC (fun k=>exec (j0 e7 k) k a18s120 [v0,.box [.int .u8 t,.int .u8 d,.int .i32 n,.str s,.list own refs,.int .u8 lack],.box [.str [],.str [],.list true [],.list true []],v3,.box [.str e.t,.str e.id,.list o1 (e.ks.map r6),.list o2 (e.ls.map Val.row)],v5,V,W,Y,v9,E,N,v12,O,R,F,G] st)
  (fun o=>∃ r st',Go.Cb.finK [.bx 2 true 4] (some o)=some (r,st')∧st'=st∧∃ e':Ent,r=.agg e'.row∧e'.Good∧e'.id=e.id∧e'.t=e.t):=by
 have a0:=D.kl;have a1:=D.le;simp +contextual -implicitDefEqProofs only [K18,SS,rA,rS,rL,rE,reduceCtorEq,z5,if_false,List.length_map];refine wg (fun h=>?_) (fun h=>?_)
 · have B:1 < e.ks.length:=by
    have h2:ltI 1 (e.ks.length:Int)=true:=by
     rcases s9 (ltI 1 (e.ks.length:Int))with h2|h2
     · exact h2
     · rw[h2,Bool.and_false]at h; cases h
    rw[ltI_eq]at h2;have:=of_decide_eq_true h2;omega
   have M:((e.ks.length:Int)=0)=False:=by simp; intro hh; rw[hh]at B; simp at B
   simp +contextual -implicitDefEqProofs only [K18,SS,rA,rS,rL,rE,reduceCtorEq,z5,if_false,List.length_map,M];refine we (fun U fr st'=>st'=st∧∃ (i:Nat) (J:Int) (K:List (List Nat)) (z:List Val),i≤e.ks.length∧U=e.ks.length - i∧K.length=z.length∧K.length≤i∧K.Sublist (e.ks.take i)∧(∀ v∈z,v∈e.ls)∧fr=[v0,.box [.int .u8 t,.int .u8 d,.int .i32 n,.str s,.list own refs,.int .u8 lack],.box [.str [],.str [],.list true [],.list true []],v3,.box [.str e.t,.str e.id,.list o1 (e.ks.map r6),.list o2 (e.ls.map Val.row)],v5,V,W,Y,v9,E,.int .i64 J,.list true (K.map r6),.list true (z.map Val.row),.int .i64 i,F,G]) (m:=e.ks.length) ⟨rfl,0,_,[],[],Nat.zero_le _,rfl,rfl,Nat.le_refl _,List.nil_sublist _,by simp,rfl⟩ ?_;rintro U fr st' ⟨rfl,i,J,K,z,hi,rfl,C,Z,T,y,rfl⟩;simp +contextual -implicitDefEqProofs only [K18,SS,rA,rS,rL,rE,reduceCtorEq,List.length_map,ltN];by_cases j:i < e.ks.length
   · have e1:=b6g j;have e2:=b58 (ls:=e.ls) (i:=i) (by omega);have hm:=List.getElem_mem (l:=e.ls) (n:=i) (by omega);have I:=b8Z j T;revert e1 e2 hm I;generalize e.ks[i]=x;generalize e.ls[i]=v;intro e1 e2 hm I;obtain⟨k1,n1,s1,a2,b0,S⟩:=v.row_cells;rw[S]at e2;simp +contextual -implicitDefEqProofs only [K18,SS,rA,rS,rL,rE,reduceCtorEq,j,List.length_map];refine wg (fun h=>?_) (fun h=>?_)
     · simp +contextual -implicitDefEqProofs only [K18,SS,rA,rS,rL,rE,reduceCtorEq,e1,e2,c0j,b1V,List.length_map,a0z (show i+1 < 2 ^ 63 by omega),show(K.length+1)*16≤2 ^ 47 by omega,show(z.length+1)*80≤2 ^ 47 by omega];refine wc (m':=e.ks.length - (i+1)) (by omega) ⟨rfl,i+1,J,K++[x],z++[v],j,rfl,by simp[C],by simp; omega,I.1,fun u hu=>?_,by rw[List.map_append,List.map_append,← S]; rfl⟩
       rcases List.mem_append.1 hu with hu|hu
       · exact y u hu
       · rw[List.mem_singleton.1 hu]; exact hm
     · simp +contextual -implicitDefEqProofs only [K18,SS,rA,rS,rL,rE,reduceCtorEq,a0z (show i+1 < 2 ^ 63 by omega)];exact wc (m':=e.ks.length - (i+1)) (by omega) ⟨rfl,i+1,J,K,z,j,rfl,C,by omega,I.2,y,rfl⟩
   · simp +contextual -implicitDefEqProofs only [K18,SS,rA,rS,rL,rE,reduceCtorEq,j];refine wd ?_;simp +contextual -implicitDefEqProofs only [K18,SS,rA,rS,rL,rE,reduceCtorEq,List.length_map];refine wb ⟨_,_,rfl,rfl,⟨e.t,e.id,K,z⟩,rfl,⟨C,D.fam.sub (T.trans (List.take_sublist _ _)),D.idl,show K.length≤6 by omega,fun v hv=>D.sm v (y v hv)⟩,rfl,rfl⟩
 · simp +contextual -implicitDefEqProofs only [K18,SS,rA,rS,rL,rE,reduceCtorEq,z5,if_false,List.length_map];exact wb ⟨_,_,rfl,rfl,e,rfl,D,rfl,rfl⟩
def idS (d:Int):List Nat:=idsL.getD (d.tmod 8).toNat []
theorem b6f {d:Int} (j:0≤d):([[.str [97]],[.str [98]],[.str [99]],[.str [100]],[.str [101]],[.str [49,48]],[.str [57]],[.str []]]:List (List AV))[(d.tmod 8).toNat]?=some [.str (idS d)]:=by
 unfold idS;have t:0≤d.tmod 8:=Int.tmod_nonneg 8 j;have u:d.tmod 8 < 8:=Int.tmod_lt_of_pos d (by decide);obtain⟨k,l⟩:∃ k:Nat,d.tmod 8=k:=⟨(d.tmod 8).toNat,by omega⟩
 rw[l,Int.toNat_natCast];have i:k < 8:=by omega
 match k,i with
 | 0,_=>rfl
 | 1,_=>rfl
 | 2,_=>rfl
 | 3,_=>rfl
 | 4,_=>rfl
 | 5,_=>rfl
 | 6,_=>rfl
 | 7,_=>rfl
structure Thg where
 t:Int
 d:Int
 n:Int
 s:List Nat
 refs:List Int
 lack:Int
def a03 (r:Int):List AV:=[.int .u8 r]
def Thg.row (x:Thg):List AV:=[.int .u8 x.t,.int .u8 x.d,.int .i32 x.n,.str x.s,.list false (x.refs.map a03),.int .u8 x.lack]
structure Thg.OK (x:Thg):Prop where
 d:0≤x.d
 refs:∀ r∈x.refs,0≤r
 n:-9223372036854775808≤x.n∧x.n < 9223372036854775808
 s:x.s.length≤TB
theorem Val.row0 (k n:Int) (s:List Nat):(Val.mk k n s [] []).row=[.int .u8 k,.int .i64 n,.str s,.list false [],.list false []]:=by rw[Val.row_eq]; rfl
theorem Val.rowL (k n:Int) (s:List Nat) (ls:List Val):(Val.mk k n s [] ls).row=[.int .u8 k,.int .i64 n,.str s,.list false [],.list false (ls.map Val.row)]:=by rw[Val.row_eq]; rfl
theorem a0J {k n:Int} {s:List Nat} (h:k≠6∧s.length≤TB):Small (.mk k n s [] []):=⟨k,n,s,[],rfl,⟨h,fun _=>rfl⟩,by decide,by simp⟩
def a4G (j:Int) (i:List Val) (md:List Nat) (tk tn:Int) (ts:List Nat) (ok:Int) (os:List Nat):List Val:=[.mk 1 j [] [] [],.mk 5 0 [] [] i,.mk 4 0 md [] [],.mk tk tn ts [] [],.mk ok 0 os [] [],.mk 5 0 [] [] [.mk tk tn ts [] [],.mk 0 0 [] [] []]]
theorem b1n {B:Int} {l:List Val} {md:List Nat} {tk tn:Int} {ts:List Nat} {ok:Int} {os id:List Nat} (i:id∈idsL) (j:tk≠6∧ts.length≤TB) (x:ok≠6∧os.length≤TB) (t:md.length≤TB) (y:l.length≤6∧∀ u∈l,∃ k n s,u=.mk k n s [] []∧k≠6∧s.length≤TB):(⟨[80,101,114,115,111,110],id,personK,a4G B l md tk tn ts ok os⟩:Ent).Good:=by
 refine⟨rfl,.inl ⟨rfl,List.Sublist.refl _⟩,i,show personK.length≤6 by decide,fun v z=>?_⟩;simp only[a4G,List.mem_cons,List.not_mem_nil,or_false]at z;rcases z with rfl|rfl|rfl|rfl|rfl|rfl
 · exact a0J ⟨by decide,by decide⟩
 · exact⟨_,_,_,_,rfl,⟨⟨by decide,by decide⟩,fun h=>absurd rfl h⟩,y.1,y.2⟩
 · exact a0J ⟨by decide,t⟩
 · exact a0J j
 · exact a0J x
 · refine⟨_,_,_,_,rfl,⟨⟨by decide,by decide⟩,fun h=>absurd rfl h⟩,by simp,fun u hu=>?_⟩;simp only[List.mem_cons,List.not_mem_nil,or_false]at hu;rcases hu with rfl|rfl
   · exact⟨_,_,_,rfl,j⟩
   · exact⟨_,_,_,rfl,by decide,by decide⟩
theorem b2f {t d n:Int} {s:List Nat} {own:Bool} {refs:List (List AV)} {lack:Int} (id:List Nat) (j:id∈idsL) (tk tn N ok:Int) (ts os:List Nat) (F:List Val) (J:tk≠6∧ts.length≤TB) (I:ok≠6∧os.length≤TB) (hL:F.length≤6∧∀ u∈F,∃ k n s,u=.mk k n s [] []∧k≠6∧s.length≤TB) (b1 b2 b3 b4 b5 b6:Bool) (v0 v3 v9:AV) (st:St) :
 WC (fun k=>exec (j0 e7 k) k a18s121 [v0,.box [.int .u8 t,.int .u8 d,.int .i32 n,.str s,.list own refs,.int .u8 lack],.box [.str [],.str [],.list true [],.list true []],v3,.box [.str [],.str id,.list true [],.list true []],
  .box [.int .u8 tk,.int .i64 tn,.str ts,.list b1 [],.list b2 []],.box [.int .u8 1,.int .i64 N,.str [],.list true [],.list true []],.box [.int .u8 5,.int .i64 0,.str [],.list b3 [],.list b4 (F.map Val.row)],.box [.int .u8 ok,.int .i64 0,.str os,.list b5 [],.list b6 []],v9,.undef,.undef,.undef,.undef,.undef,.undef,.undef] st)
  (fun o=>∃ r st',Go.Cb.finK [.bx 2 true 4] (some o)=some (r,st')∧st'=st∧∃ e':Ent,r=.agg e'.row∧e'.Good∧e'.id=id):=by
 have fin:∀ (e:Ent) (hg:e.Good) (he:e.id=id) (ks ls:List (List AV)) (h1:ks=e.ks.map r6) (h2:ls=e.ls.map Val.row) (o1 o2:Bool) (w0 V W Y Z w8 w9 x y z B C D E:AV),WC (fun k=>exec (j0 e7 k) k a18s120 [w0,.box [.int .u8 t,.int .u8 d,.int .i32 n,.str s,.list own refs,.int .u8 lack],.box [.str [],.str [],.list true [],.list true []],V,.box [.str e.t,.str id,.list o1 ks,.list o2 ls],W,Y,Z,w8,w9,x,y,z,B,C,D,E] st)
  (fun o=>∃ r st',Go.Cb.finK [.bx 2 true 4] (some o)=some (r,st')∧st'=st∧∃ e':Ent,r=.agg e'.row∧e'.Good∧e'.id=id):=by
  intro e hg he ks ls h1 h2 o1 o2 w0 V W Y Z w8 w9 x y z B C D E;subst h1; subst h2; subst he;exact(b7N e hg o1 o2 w0 V W Y Z w8 w9 x y z B C D E st).mono fun o ⟨r,st',h1,h2,e',h3,h4,h5,_⟩=>⟨r,st',h1,h2,e',h3,h4,h5⟩
 have i:∀ (md:List Nat) (G:md.length≤TB) (v9 O v12 R S T U:AV) (b7 b8:Bool),WC (fun k=>exec (j0 e7 k) k a18s120 [v0,.box [.int .u8 t,.int .u8 d,.int .i32 n,.str s,.list own refs,.int .u8 lack],.box [.str [],.str [],.list true [],.list true []],v3,.box [.str [80,101,114,115,111,110],.str id,.list true [[.str [97,103,101]],[.str [102,114,105,101,110,100,115]],[.str [109,111,111,100]],[.str [110,97,109,101]],[.str [112,101,116]],[.str [116,97,103,115]]],.list true [[.int .u8 1,.int .i64 N,.str [],.list false [],.list false []],[.int .u8 5,.int .i64 0,.str [],.list false [],.list false (F.map Val.row)],[.int .u8 4,.int .i64 0,.str md,.list false [],.list false []],[.int .u8 tk,.int .i64 tn,.str ts,.list false [],.list false []],[.int .u8 ok,.int .i64 0,.str os,.list false [],.list false []],[.int .u8 5,.int .i64 0,.str [],.list false [],.list false [[.int .u8 tk,.int .i64 tn,.str ts,.list false [],.list false []],[.int .u8 0,.int .i64 0,.str [],.list false [],.list false []]]]]],
  .box [.int .u8 tk,.int .i64 tn,.str ts,.list b1 [],.list b2 []],.box [.int .u8 1,.int .i64 N,.str [],.list true [],.list true []],.box [.int .u8 5,.int .i64 0,.str [],.list b3 [],.list b4 (F.map Val.row)],.box [.int .u8 ok,.int .i64 0,.str os,.list b5 [],.list b6 []],v9,.box [.int .u8 4,.int .i64 0,.str md,.list b7 [],.list b8 []],O,v12,R,S,T,U] st)
  (fun o=>∃ r st',Go.Cb.finK [.bx 2 true 4] (some o)=some (r,st')∧st'=st∧∃ e':Ent,r=.agg e'.row∧e'.Good∧e'.id=id):=fun md G v9 O v12 R S T U b7 b8=>by
  refine fin ⟨[80,101,114,115,111,110],id,personK,a4G N F md tk tn ts ok os⟩ (b1n j J I G hL) rfl _ _ rfl ?_ true true v0 v3 _ _ _ _ _ _ _ _ _ _ _ _;simp only[a4G,List.map_cons,List.map_nil,Val.rowL]
 simp (maxSteps:=1000000) (contextual:=true) (implicitDefEqProofs:=false) only [S5,SS,rA,rS,rL,rE,reduceCtorEq,a18s121.eq_1,Nat.reduceLT,z4,if_false,if_true];rcases s9 (eqI (t.tmod 4) 0)with h0|h0
 · simp (maxSteps:=1000000) (contextual:=true) (implicitDefEqProofs:=false) only [S5,SS,rA,rS,rL,rE,reduceCtorEq,h0,Nat.reduceLT,z7,if_false,if_true];refine wg (fun l=>?_) (fun l=>?_)
   · simp (maxSteps:=1000000) (contextual:=true) (implicitDefEqProofs:=false) only [S5,SS,rA,rS,rL,rE,reduceCtorEq,l,Nat.reduceLT,z7,if_false,if_true];exact i _ (by decide) _ _ _ _ _ _ _ _ _
   · simp (maxSteps:=1000000) (contextual:=true) (implicitDefEqProofs:=false) only [S5,SS,rA,rS,rL,rE,reduceCtorEq,l,Nat.reduceLT,z7,if_false,if_true];exact i _ (by decide) _ _ _ _ _ _ _ _ _
 rcases s9 (eqI (t.tmod 4) 1)with h1|h1
 · simp (maxSteps:=1000000) (contextual:=true) (implicitDefEqProofs:=false) only [S5,SS,rA,rS,rL,rE,reduceCtorEq,h0,h1,Nat.reduceLT,z7,if_false,if_true];refine wg (fun l=>?_) (fun l=>?_)
   · simp (maxSteps:=1000000) (contextual:=true) (implicitDefEqProofs:=false) only [S5,SS,rA,rS,rL,rE,reduceCtorEq,l,Nat.reduceLT,z7,if_false,if_true];exact i _ (by decide) _ _ _ _ _ _ _ _ _
   · simp (maxSteps:=1000000) (contextual:=true) (implicitDefEqProofs:=false) only [S5,SS,rA,rS,rL,rE,reduceCtorEq,l,Nat.reduceLT,z7,if_false,if_true];exact i _ (by decide) _ _ _ _ _ _ _ _ _
 rcases s9 (eqI (t.tmod 4) 2)with h2|h2
 · simp (maxSteps:=1000000) (contextual:=true) (implicitDefEqProofs:=false) only [S5,SS,rA,rS,rL,rE,reduceCtorEq,h0,h1,h2,Nat.reduceLT,z7,if_false,if_true];refine fin ⟨[67,97,116],id,catK,[.mk 1 N [] [] [],.mk tk tn ts [] [],.mk ok 0 os [] []]⟩ ⟨rfl,.inr (.inl rfl),j,show catK.length≤6 by decide,fun v M=>?_⟩ rfl _ _ rfl ?_ true true _ _ _ _ _ _ _ _ _ _ _ _ _ _
   · simp only[List.mem_cons,List.not_mem_nil,or_false]at M;rcases M with rfl|rfl|rfl
     · exact a0J ⟨by decide,by decide⟩
     · exact a0J J
     · exact a0J I
   · simp only[List.map_cons,List.map_nil,Val.rowL]
 · simp (maxSteps:=1000000) (contextual:=true) (implicitDefEqProofs:=false) only [S5,SS,rA,rS,rL,rE,reduceCtorEq,h0,h1,h2,Nat.reduceLT,z2,z7,if_false,if_true];refine fin ⟨[68,111,103],id,dogK,[.mk 3 (B2 .i64 (lack.tmod 2)) [] [] []]⟩ ⟨rfl,.inr (.inr rfl),j,show dogK.length≤6 by decide,fun v M=>?_⟩ rfl _ _ rfl ?_ true true _ _ _ _ _ _ _ _ _ _ _ _ _ _
   · simp only[List.mem_cons,List.not_mem_nil,or_false]at M;rw[M];exact a0J ⟨by decide,by decide⟩
   · simp only[List.map_cons,List.map_nil,Val.rowL]
theorem b1I (d:Int):idS d∈idsL:=by
 unfold idS;generalize (d.tmod 8).toNat=i;rcases Nat.lt_or_ge i 8 with h|h
 · rw[List.getD_eq_getElem?_getD,List.getElem?_eq_getElem (show i < idsL.length from h)];exact List.getElem_mem _
 · rw[List.getD_eq_getElem?_getD,List.getElem?_eq_none (show idsL.length≤i from h)];decide
theorem b1U (d:Int):(idS d).length≤TB:=by
 have h:∀ i,(idsL.getD i []).length≤2:=fun i=>by
  rcases Nat.lt_or_ge i 8 with h|h
  · rcases i with _|_|_|_|_|_|_|_|i<;>first|decide|omega
  · rw[List.getD_eq_getElem?_getD,List.getElem?_eq_none (show idsL.length≤i from h)]; decide
 exact Nat.le_trans (h _) (by decide)
theorem b7O {x:Thg} (W:x.OK) (st:St):EvQ e7 18 [.agg x.row] st (fun a st'=>st'=st∧∃ e:Ent,a=.agg e.row∧e.Good∧e.id=idS x.d):=by
 obtain⟨t,d,n,s,refs,lack⟩:=x;obtain⟨E,O,hn,D⟩:=W;dsimp only at E O hn D;have hid:=b6f E;have F:0≤d.tmod 8:=Int.tmod_nonneg 8 E;unfold Thg.row;refine wh (fn:=a18) rfl rfl rfl ?_;simp (maxSteps:=1000000) (contextual:=true) (implicitDefEqProofs:=false) only [S5,SS,rA,rS,rL,rE,reduceCtorEq,Nat.reduceLT,z8,if_false,hid,F,if_true,List.length_map,a3F hn.1 hn.2];refine we (fun R fr st'=>st'=st∧∃ (i:Nat) (j:List Val) (ok:Int) (os:List Nat) (J S M N:Bool),i≤6∧R=6 - i∧j.length≤i∧(∀ u∈j,∃ k n s,u=.mk k n s [] []∧k≠6∧s.length≤TB)∧(ok≠6∧os.length≤TB)∧fr=[.agg [.int .u8 t,.int .u8 d,.int .i32 n,.str s,.list false (refs.map a03),.int .u8 lack],.box [.int .u8 t,.int .u8 d,.int .i32 n,.str s,.list false (refs.map a03),.int .u8 lack],.box [.str [],.str [],.list true [],.list true []],.list true [[.str [97]],[.str [98]],[.str [99]],[.str [100]],[.str [101]],[.str [49,48]],[.str [57]],[.str []]],.box [.str [],.str (idS d),.list true [],.list true []],
  .box [.int .u8 2,.int .i64 0,.str s,.list true [],.list true []],.box [.int .u8 1,.int .i64 n,.str [],.list true [],.list true []],.box [.int .u8 5,.int .i64 0,.str [],.list J [],.list true (j.map Val.row)],.box [.int .u8 ok,.int .i64 0,.str os,.list M [],.list N []],.int .i64 i,.undef,.undef,.undef,.undef,.undef,.undef,.undef]) (m:=6) ⟨rfl,0,[],_,_,_,true,_,_,by decide,rfl,by simp,by simp,⟨by decide,by decide⟩,rfl⟩ ?_
 rintro R fr st' ⟨rfl,i,j,ok,os,J,S,M,N,hi,rfl,U,z,C,rfl⟩;simp +contextual -implicitDefEqProofs only [S5,SS,rA,rS,rL,rE,reduceCtorEq,List.length_map,ltN];rcases s9 (decide (i < refs.length) && ltI (i:Int) 6)with hc|hc
 · have B:i < refs.length:=by rw[Bool.and_eq_true]at hc;exact of_decide_eq_true hc.1
   have V:i < 6:=by rw[Bool.and_eq_true,ltI_eq]at hc;have:=of_decide_eq_true hc.2;omega
   have e1:(refs.map a03)[i]?=some [.int .u8 refs[i]]:=by rw[List.getElem?_map,List.getElem?_eq_getElem B]; rfl
   have l:=O _ (List.getElem_mem B);revert e1 l;generalize refs[i]=r;intro e1 l;have G:=b6f l;have I:0≤r.tmod 8:=Int.tmod_nonneg 8 l;simp (maxSteps:=1000000) (contextual:=true) (implicitDefEqProofs:=false) only [S5,SS,rA,rS,rL,rE,reduceCtorEq,hc,e1,G,I,z8,if_false,if_true,b1V,List.length_map,a0z (show i+1 < 2 ^ 63 by omega),show(j.length+1)*80≤2 ^ 47 by omega];refine wc (m':=6 - (i+1)) (by omega) ⟨rfl,i+1,j++[.mk 8 0 (idS r) [] []],8,_,_,true,_,_,by omega,rfl,by simp; omega,fun u hu=>?_,⟨by decide,b1U r⟩,by rw[List.map_append,List.map_cons,List.map_nil,Val.row0]⟩
   rcases List.mem_append.1 hu with hu|hu
   · exact z u hu
   · exact⟨_,_,_,List.mem_singleton.1 hu,by decide,b1U r⟩
 · simp (maxSteps:=1000000) (contextual:=true) (implicitDefEqProofs:=false) only [S5,SS,rA,rS,rL,rE,reduceCtorEq,hc];refine wd ?_;simp (maxSteps:=1000000) (contextual:=true) (implicitDefEqProofs:=false) only [S5,SS,rA,rS,rL,rE,reduceCtorEq,z16,if_false];have y:j.length≤6∧∀ u∈j,∃ k n s,u=Val.mk k n s [] []∧k≠6∧s.length≤TB:=⟨by omega,z⟩
   refine wg (fun T=>?_) (fun T=>?_)
   · simp (maxSteps:=1000000) (contextual:=true) (implicitDefEqProofs:=false) only [S5,SS,rA,rS,rL,rE,reduceCtorEq];exact b2f (idS d) (b1I d) 1 n n ok [] os j ⟨by decide,by decide⟩ C y _ _ _ _ _ _ _ _ _ _
   · simp (maxSteps:=1000000) (contextual:=true) (implicitDefEqProofs:=false) only [S5,SS,rA,rS,rL,rE,reduceCtorEq];exact b2f (idS d) (b1I d) 2 0 n ok s os j ⟨by decide,D⟩ C y _ _ _ _ _ _ _ _ _ _
end Go.Cb.CodeA
