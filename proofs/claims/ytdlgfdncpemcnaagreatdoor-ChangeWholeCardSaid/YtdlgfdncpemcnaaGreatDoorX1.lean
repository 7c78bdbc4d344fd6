import Derived.Test.YtdlgfdncpemcnaaGreatDoorBaseW
import Derived.Test.YtdlgfdncpemcnaaGreatDoorQxK
set_option maxRecDepth 20000
set_option linter.all false
namespace Go.Cb.CodeA
open Go Go.Cb
open Nat renaming reduceAdd→rA,reduceSub→rS,reduceLeDiff→rL,reduceEqDiff→rE
attribute [local congr] H6 L7 O2 O3 K5 L8 S4 R9 V.runR_congr
structure Ent where
 t:List Nat
 id:List Nat
 ks:List (List Nat)
 ls:List Val
def Ent.row (e:Ent):List AV:=[.str e.t,.str e.id,.list false (e.ks.map m3),.list false (e.ls.map Val.row)]
def TB:Nat:=2 ^ 47
def Small (v:Val):Prop:=∃ k n s ls,v=.mk k n s [] ls∧((k≠6∧s.length≤TB)∧(k≠5→ls=[]))∧ls.length≤6∧∀ u∈ls,∃ k n s,u=.mk k n s [] []∧k≠6∧s.length≤TB
def personK:List (List Nat):=[[97,103,101],[102,114,105,101,110,100,115],[109,111,111,100],[110,97,109,101],[112,101,116],[116,97,103,115]]
def catK:List (List Nat):=[[108,105,118,101,115],[110,97,109,101],[111,119,110,101,114]]
def dogK:List (List Nat):=[[98,97,114,107,115]]
def idsL:List (List Nat):=[[97],[98],[99],[100],[101],[49,48],[57],[]]
def Fam (t:List Nat) (ks:List (List Nat)):Prop:=(t=[80,101,114,115,111,110]∧ks.Sublist personK)∨t=[67,97,116]∨t=[68,111,103]
theorem Fam.sub {t:List Nat} {ks i:List (List Nat)} (h:Fam t ks) (hs:i.Sublist ks):Fam t i:=by
 rcases h with⟨h,j⟩|h
 · exact .inl ⟨h,hs.trans j⟩
 · exact .inr h
theorem b7D {ks K:List (List Nat)} {i:Nat} (hi:i < ks.length) (h:K.Sublist (ks.take i)):(K++[ks[i]]).Sublist (ks.take (i+1))∧K.Sublist (ks.take (i+1)):=by rw[List.take_add_one,List.getElem?_eq_getElem hi];exact⟨h.append (List.Sublist.refl _),h.trans (List.sublist_append_left _ _)⟩
structure Ent.Good (e:Ent):Prop where
 kl:e.ks.length=e.ls.length
 fam:Fam e.t e.ks
 idl:e.id∈idsL
 le:e.ks.length≤6
 sm:∀ v∈e.ls,Small v
theorem b6X {ls:List Val} {i:Nat} (h:i < ls.length):(ls.map Val.row)[i]?=some (ls[i]).row:=by rw[List.getElem?_map,List.getElem?_eq_getElem h]; rfl
theorem b54 {ks:List (List Nat)} {i:Nat} (h:i < ks.length):(ks.map m3)[i]?=some [.str ks[i]]:=by rw[List.getElem?_map,List.getElem?_eq_getElem h]; rfl
theorem z2:((2:Int)=0)=False:=by simp
theorem z4:((4:Int)=0)=False:=by simp
theorem z5:((5:Int)=0)=False:=by simp
theorem z7:((7:Int)=0)=False:=by simp
theorem z8:((8:Int)=0)=False:=by simp
theorem z16:((16:Int)=0)=False:=by simp
theorem b9g {t d n:Int} {s:List Nat} {own:Bool} {refs:List (List AV)} {lack:Int} (e:Ent) (hg:e.Good) (o1 o2:Bool) (v0 v3 v5 Z v7 v8 v9 E S v12 T U F G:AV) (st:St) :
 WC (fun k=>exec (j9 e8 k) k a12s120 [v0,.box [.int .u8 t,.int .u8 d,.int .i32 n,.str s,.list own refs,.int .u8 lack],.box [.str [],.str [],.list true [],.list true []],v3,.box [.str e.t,.str e.id,.list o1 (e.ks.map m3),.list o2 (e.ls.map Val.row)],v5,Z,v7,v8,v9,E,S,v12,T,U,F,G] st)
  (fun o=>∃ r st',Go.Cb.finK [.bx 2 true 4] (some o)=some (r,st')∧st'=st∧∃ e':Ent,r=.agg e'.row∧e'.Good∧e'.id=e.id∧e'.t=e.t):=by
 have a1:=hg.kl;have a2:=hg.le;simp +contextual -implicitDefEqProofs only [K12,SS,rA,rS,rL,rE,reduceCtorEq,z5,if_false,List.length_map];refine wg (fun h=>?_) (fun h=>?_)
 · have B:1 < e.ks.length:=by
    have h2:ltI 1 (e.ks.length:Int)=true:=by
     rcases D8 (ltI 1 (e.ks.length:Int))with h2|h2
     · exact h2
     · rw[h2,Bool.and_false]at h; cases h
    rw[ltI_eq]at h2;have:=of_decide_eq_true h2;omega
   have N:((e.ks.length:Int)=0)=False:=by simp; intro hh; rw[hh]at B; simp at B
   simp +contextual -implicitDefEqProofs only [K12,SS,rA,rS,rL,rE,reduceCtorEq,z5,if_false,List.length_map,N];refine we (fun Y fr st'=>st'=st∧∃ (i:Nat) (J:Int) (K:List (List Nat)) (z:List Val),i≤e.ks.length∧Y=e.ks.length - i∧K.length=z.length∧K.length≤i∧K.Sublist (e.ks.take i)∧(∀ v∈z,v∈e.ls)∧fr=[v0,.box [.int .u8 t,.int .u8 d,.int .i32 n,.str s,.list own refs,.int .u8 lack],.box [.str [],.str [],.list true [],.list true []],v3,.box [.str e.t,.str e.id,.list o1 (e.ks.map m3),.list o2 (e.ls.map Val.row)],v5,Z,v7,v8,v9,E,.int .i64 J,.list true (K.map m3),.list true (z.map Val.row),.int .i64 i,F,G]) (m:=e.ks.length) ⟨rfl,0,_,[],[],Nat.zero_le _,rfl,rfl,Nat.le_refl _,List.nil_sublist _,by simp,rfl⟩ ?_;rintro Y fr st' ⟨rfl,i,J,K,z,hi,rfl,D,a0,W,y,rfl⟩;simp +contextual -implicitDefEqProofs only [K12,SS,rA,rS,rL,rE,reduceCtorEq,List.length_map,ltN];by_cases j:i < e.ks.length
   · have M:=b54 j;have I:=b6X (ls:=e.ls) (i:=i) (by omega);have O:=List.getElem_mem (l:=e.ls) (n:=i) (by omega);have hk:=b7D j W;revert M I O hk;generalize e.ks[i]=x;generalize e.ls[i]=v;intro M I O hk;obtain⟨k1,n1,s1,a3,b0,V⟩:=v.row_cells;rw[V]at I;simp +contextual -implicitDefEqProofs only [K12,SS,rA,rS,rL,rE,reduceCtorEq,j,List.length_map];refine wg (fun h=>?_) (fun h=>?_)
     · simp +contextual -implicitDefEqProofs only [K12,SS,rA,rS,rL,rE,reduceCtorEq,M,I,c4H,b1Z,List.length_map,a0X (show i+1 < 2 ^ 63 by omega),show(K.length+1)*16≤2 ^ 47 by omega,show(z.length+1)*80≤2 ^ 47 by omega];refine wc (m':=e.ks.length - (i+1)) (by omega) ⟨rfl,i+1,J,K++[x],z++[v],j,rfl,by simp[D],by simp; omega,hk.1,fun u hu=>?_,by rw[List.map_append,List.map_append,← V]; rfl⟩
       rcases List.mem_append.1 hu with hu|hu
       · exact y u hu
       · rw[List.mem_singleton.1 hu]; exact O
     · simp +contextual -implicitDefEqProofs only [K12,SS,rA,rS,rL,rE,reduceCtorEq,a0X (show i+1 < 2 ^ 63 by omega)];exact wc (m':=e.ks.length - (i+1)) (by omega) ⟨rfl,i+1,J,K,z,j,rfl,D,by omega,hk.2,y,rfl⟩
   · simp +contextual -implicitDefEqProofs only [K12,SS,rA,rS,rL,rE,reduceCtorEq,j];refine wd ?_;simp +contextual -implicitDefEqProofs only [K12,SS,rA,rS,rL,rE,reduceCtorEq,List.length_map];refine wb ⟨_,_,rfl,rfl,⟨e.t,e.id,K,z⟩,rfl,⟨D,hg.fam.sub (W.trans (List.take_sublist _ _)),hg.idl,show K.length≤6 by omega,fun v hv=>hg.sm v (y v hv)⟩,rfl,rfl⟩
 · simp +contextual -implicitDefEqProofs only [K12,SS,rA,rS,rL,rE,reduceCtorEq,z5,if_false,List.length_map];exact wb ⟨_,_,rfl,rfl,e,rfl,hg,rfl,rfl⟩
def idS (d:Int):List Nat:=idsL.getD (d.tmod 8).toNat []
theorem b6r {d:Int} (j:0≤d):([[.str [97]],[.str [98]],[.str [99]],[.str [100]],[.str [101]],[.str [49,48]],[.str [57]],[.str []]]:List (List AV))[(d.tmod 8).toNat]?=some [.str (idS d)]:=by
 unfold idS;have l:0≤d.tmod 8:=Int.tmod_nonneg 8 j;have t:d.tmod 8 < 8:=Int.tmod_lt_of_pos d (by decide);obtain⟨k,hk⟩:∃ k:Nat,d.tmod 8=k:=⟨(d.tmod 8).toNat,by omega⟩
 rw[hk,Int.toNat_natCast];have i:k < 8:=by omega
 match k,i with
 | 0,_=>rfl
 | 1,_=>rfl
 | 2,_=>rfl
 | 3,_=>rfl
 | 4,_=>rfl
 | 5,_=>rfl
 | 6,_=>rfl
 | 7,_=>rfl
structure Thg where
 t:Int
 d:Int
 n:Int
 s:List Nat
 refs:List Int
 lack:Int
def a0O (r:Int):List AV:=[.int .u8 r]
def Thg.row (x:Thg):List AV:=[.int .u8 x.t,.int .u8 x.d,.int .i32 x.n,.str x.s,.list false (x.refs.map a0O),.int .u8 x.lack]
structure Thg.OK (x:Thg):Prop where
 d:0≤x.d
 refs:∀ r∈x.refs,0≤r
 n:-9223372036854775808≤x.n∧x.n < 9223372036854775808
 s:x.s.length≤TB
theorem Val.row0 (k n:Int) (s:List Nat):(Val.mk k n s [] []).row=[.int .u8 k,.int .i64 n,.str s,.list false [],.list false []]:=by rw[Val.row_eq]; rfl
theorem Val.rowL (k n:Int) (s:List Nat) (ls:List Val):(Val.mk k n s [] ls).row=[.int .u8 k,.int .i64 n,.str s,.list false [],.list false (ls.map Val.row)]:=by rw[Val.row_eq]; rfl
theorem a0n {k n:Int} {s:List Nat} (h:k≠6∧s.length≤TB):Small (.mk k n s [] []):=⟨k,n,s,[],rfl,⟨h,fun _=>rfl⟩,by decide,by simp⟩
def a4N (l:Int) (j:List Val) (md:List Nat) (i tn:Int) (ts:List Nat) (ok:Int) (os:List Nat):List Val:=[.mk 1 l [] [] [],.mk 5 0 [] [] j,.mk 4 0 md [] [],.mk i tn ts [] [],.mk ok 0 os [] [],.mk 5 0 [] [] [.mk i tn ts [] [],.mk 0 0 [] [] []]]
theorem b1t {D:Int} {l:List Val} {md:List Nat} {B tn:Int} {ts:List Nat} {ok:Int} {os id:List Nat} (i:id∈idsL) (j:B≠6∧ts.length≤TB) (x:ok≠6∧os.length≤TB) (t:md.length≤TB) (y:l.length≤6∧∀ u∈l,∃ k n s,u=.mk k n s [] []∧k≠6∧s.length≤TB):(⟨[80,101,114,115,111,110],id,personK,a4N D l md B tn ts ok os⟩:Ent).Good:=by
 refine⟨rfl,.inl ⟨rfl,List.Sublist.refl _⟩,i,show personK.length≤6 by decide,fun v z=>?_⟩;simp only[a4N,List.mem_cons,List.not_mem_nil,or_false]at z;rcases z with rfl|rfl|rfl|rfl|rfl|rfl
 · exact a0n ⟨by decide,by decide⟩
 · exact⟨_,_,_,_,rfl,⟨⟨by decide,by decide⟩,fun h=>absurd rfl h⟩,y.1,y.2⟩
 · exact a0n ⟨by decide,t⟩
 · exact a0n j
 · exact a0n x
 · refine⟨_,_,_,_,rfl,⟨⟨by decide,by decide⟩,fun h=>absurd rfl h⟩,by simp,fun u hu=>?_⟩;simp only[List.mem_cons,List.not_mem_nil,or_false]at hu;rcases hu with rfl|rfl
   · exact⟨_,_,_,rfl,j⟩
   · exact⟨_,_,_,rfl,by decide,by decide⟩
theorem b1X {t d n:Int} {s:List Nat} {own:Bool} {refs:List (List AV)} {lack:Int} (id:List Nat) (j:id∈idsL) (x tn S ok:Int) (ts os:List Nat) (I:List Val) (N:x≠6∧ts.length≤TB) (M:ok≠6∧os.length≤TB) (hL:I.length≤6∧∀ u∈I,∃ k n s,u=.mk k n s [] []∧k≠6∧s.length≤TB) (b1 b2 b3 b4 b5 b6:Bool) (v0 v3 v9:AV) (st:St) :
 WC (fun k=>exec (j9 e8 k) k a12s121 [v0,.box [.int .u8 t,.int .u8 d,.int .i32 n,.str s,.list own refs,.int .u8 lack],.box [.str [],.str [],.list true [],.list true []],v3,.box [.str [],.str id,.list true [],.list true []],
  .box [.int .u8 x,.int .i64 tn,.str ts,.list b1 [],.list b2 []],.box [.int .u8 1,.int .i64 S,.str [],.list true [],.list true []],.box [.int .u8 5,.int .i64 0,.str [],.list b3 [],.list b4 (I.map Val.row)],.box [.int .u8 ok,.int .i64 0,.str os,.list b5 [],.list b6 []],v9,.undef,.undef,.undef,.undef,.undef,.undef,.undef] st)
  (fun o=>∃ r st',Go.Cb.finK [.bx 2 true 4] (some o)=some (r,st')∧st'=st∧∃ e':Ent,r=.agg e'.row∧e'.Good∧e'.id=id):=by
 have fin:∀ (e:Ent) (hg:e.Good) (he:e.id=id) (ks ls:List (List AV)) (h1:ks=e.ks.map m3) (h2:ls=e.ls.map Val.row) (o1 o2:Bool) (w0 Z w5 w6 w7 w8 w9 y z B D E F G:AV),WC (fun k=>exec (j9 e8 k) k a12s120 [w0,.box [.int .u8 t,.int .u8 d,.int .i32 n,.str s,.list own refs,.int .u8 lack],.box [.str [],.str [],.list true [],.list true []],Z,.box [.str e.t,.str id,.list o1 ks,.list o2 ls],w5,w6,w7,w8,w9,y,z,B,D,E,F,G] st)
  (fun o=>∃ r st',Go.Cb.finK [.bx 2 true 4] (some o)=some (r,st')∧st'=st∧∃ e':Ent,r=.agg e'.row∧e'.Good∧e'.id=id):=by
  intro e hg he ks ls h1 h2 o1 o2 w0 Z w5 w6 w7 w8 w9 y z B D E F G;subst h1; subst h2; subst he;exact(b9g e hg o1 o2 w0 Z w5 w6 w7 w8 w9 y z B D E F G st).mono fun o ⟨r,st',h1,h2,e',h3,h4,h5,_⟩=>⟨r,st',h1,h2,e',h3,h4,h5⟩
 have i:∀ (md:List Nat) (J:md.length≤TB) (v9 T v12 U V W Y:AV) (b7 b8:Bool),WC (fun k=>exec (j9 e8 k) k a12s120 [v0,.box [.int .u8 t,.int .u8 d,.int .i32 n,.str s,.list own refs,.int .u8 lack],.box [.str [],.str [],.list true [],.list true []],v3,.box [.str [80,101,114,115,111,110],.str id,.list true [[.str [97,103,101]],[.str [102,114,105,101,110,100,115]],[.str [109,111,111,100]],[.str [110,97,109,101]],[.str [112,101,116]],[.str [116,97,103,115]]],.list true [[.int .u8 1,.int .i64 S,.str [],.list false [],.list false []],[.int .u8 5,.int .i64 0,.str [],.list false [],.list false (I.map Val.row)],[.int .u8 4,.int .i64 0,.str md,.list false [],.list false []],[.int .u8 x,.int .i64 tn,.str ts,.list false [],.list false []],[.int .u8 ok,.int .i64 0,.str os,.list false [],.list false []],[.int .u8 5,.int .i64 0,.str [],.list false [],.list false [[.int .u8 x,.int .i64 tn,.str ts,.list false [],.list false []],[.int .u8 0,.int .i64 0,.str [],.list false [],.list false []]]]]],
  .box [.int .u8 x,.int .i64 tn,.str ts,.list b1 [],.list b2 []],.box [.int .u8 1,.int .i64 S,.str [],.list true [],.list true []],.box [.int .u8 5,.int .i64 0,.str [],.list b3 [],.list b4 (I.map Val.row)],.box [.int .u8 ok,.int .i64 0,.str os,.list b5 [],.list b6 []],v9,.box [.int .u8 4,.int .i64 0,.str md,.list b7 [],.list b8 []],T,v12,U,V,W,Y] st)
  (fun o=>∃ r st',Go.Cb.finK [.bx 2 true 4] (some o)=some (r,st')∧st'=st∧∃ e':Ent,r=.agg e'.row∧e'.Good∧e'.id=id):=fun md J v9 T v12 U V W Y b7 b8=>by
  refine fin ⟨[80,101,114,115,111,110],id,personK,a4N S I md x tn ts ok os⟩ (b1t j N M J hL) rfl _ _ rfl ?_ true true v0 v3 _ _ _ _ _ _ _ _ _ _ _ _;simp only[a4N,List.map_cons,List.map_nil,Val.rowL]
 simp (maxSteps:=1000000) (contextual:=true) (implicitDefEqProofs:=false) only [S3,SS,rA,rS,rL,rE,reduceCtorEq,a12s121.eq_1,Nat.reduceLT,z4,if_false,if_true];rcases D8 (eqI (t.tmod 4) 0)with h0|h0
 · simp (maxSteps:=1000000) (contextual:=true) (implicitDefEqProofs:=false) only [S3,SS,rA,rS,rL,rE,reduceCtorEq,h0,Nat.reduceLT,z7,if_false,if_true];refine wg (fun l=>?_) (fun l=>?_)
   · simp (maxSteps:=1000000) (contextual:=true) (implicitDefEqProofs:=false) only [S3,SS,rA,rS,rL,rE,reduceCtorEq,l,Nat.reduceLT,z7,if_false,if_true];exact i _ (by decide) _ _ _ _ _ _ _ _ _
   · simp (maxSteps:=1000000) (contextual:=true) (implicitDefEqProofs:=false) only [S3,SS,rA,rS,rL,rE,reduceCtorEq,l,Nat.reduceLT,z7,if_false,if_true];exact i _ (by decide) _ _ _ _ _ _ _ _ _
 rcases D8 (eqI (t.tmod 4) 1)with h1|h1
 · simp (maxSteps:=1000000) (contextual:=true) (implicitDefEqProofs:=false) only [S3,SS,rA,rS,rL,rE,reduceCtorEq,h0,h1,Nat.reduceLT,z7,if_false,if_true];refine wg (fun l=>?_) (fun l=>?_)
   · simp (maxSteps:=1000000) (contextual:=true) (implicitDefEqProofs:=false) only [S3,SS,rA,rS,rL,rE,reduceCtorEq,l,Nat.reduceLT,z7,if_false,if_true];exact i _ (by decide) _ _ _ _ _ _ _ _ _
   · simp (maxSteps:=1000000) (contextual:=true) (implicitDefEqProofs:=false) only [S3,SS,rA,rS,rL,rE,reduceCtorEq,l,Nat.reduceLT,z7,if_false,if_true];exact i _ (by decide) _ _ _ _ _ _ _ _ _
 rcases D8 (eqI (t.tmod 4) 2)with h2|h2
 · simp (maxSteps:=1000000) (contextual:=true) (implicitDefEqProofs:=false) only [S3,SS,rA,rS,rL,rE,reduceCtorEq,h0,h1,h2,Nat.reduceLT,z7,if_false,if_true];refine fin ⟨[67,97,116],id,catK,[.mk 1 S [] [] [],.mk x tn ts [] [],.mk ok 0 os [] []]⟩ ⟨rfl,.inr (.inl rfl),j,show catK.length≤6 by decide,fun v O=>?_⟩ rfl _ _ rfl ?_ true true _ _ _ _ _ _ _ _ _ _ _ _ _ _
   · simp only[List.mem_cons,List.not_mem_nil,or_false]at O;rcases O with rfl|rfl|rfl
     · exact a0n ⟨by decide,by decide⟩
     · exact a0n N
     · exact a0n M
   · simp only[List.map_cons,List.map_nil,Val.rowL]
 · simp (maxSteps:=1000000) (contextual:=true) (implicitDefEqProofs:=false) only [S3,SS,rA,rS,rL,rE,reduceCtorEq,h0,h1,h2,Nat.reduceLT,z2,z7,if_false,if_true];refine fin ⟨[68,111,103],id,dogK,[.mk 3 (A0 .i64 (lack.tmod 2)) [] [] []]⟩ ⟨rfl,.inr (.inr rfl),j,show dogK.length≤6 by decide,fun v O=>?_⟩ rfl _ _ rfl ?_ true true _ _ _ _ _ _ _ _ _ _ _ _ _ _
   · simp only[List.mem_cons,List.not_mem_nil,or_false]at O;rw[O];exact a0n ⟨by decide,by decide⟩
   · simp only[List.map_cons,List.map_nil,Val.rowL]
theorem a7i (d:Int):idS d∈idsL:=by
 unfold idS;generalize (d.tmod 8).toNat=i;rcases Nat.lt_or_ge i 8 with h|h
 · rw[List.getD_eq_getElem?_getD,List.getElem?_eq_getElem (show i < idsL.length from h)];exact List.getElem_mem _
 · rw[List.getD_eq_getElem?_getD,List.getElem?_eq_none (show idsL.length≤i from h)];decide
theorem b14 (d:Int):(idS d).length≤TB:=by
 have h:∀ i,(idsL.getD i []).length≤2:=fun i=>by
  rcases Nat.lt_or_ge i 8 with h|h
  · rcases i with _|_|_|_|_|_|_|_|i<;>first|decide|omega
  · rw[List.getD_eq_getElem?_getD,List.getElem?_eq_none (show idsL.length≤i from h)]; decide
 exact Nat.le_trans (h _) (by decide)
theorem a8F {x:Thg} (hx:x.OK) (st:St):EvQ e8 12 [.agg x.row] st (fun a st'=>st'=st∧∃ e:Ent,a=.agg e.row∧e.Good∧e.id=idS x.d):=by
 obtain⟨t,d,n,s,refs,lack⟩:=x;obtain⟨F,T,I,D⟩:=hx;dsimp only at F T I D;have hid:=b6r F;have G:0≤d.tmod 8:=Int.tmod_nonneg 8 F;unfold Thg.row;refine wh (fn:=a12) rfl rfl rfl ?_;simp (maxSteps:=1000000) (contextual:=true) (implicitDefEqProofs:=false) only [S3,SS,rA,rS,rL,rE,reduceCtorEq,Nat.reduceLT,z8,if_false,hid,G,if_true,List.length_map,a4p I.1 I.2];refine we (fun U fr st'=>st'=st∧∃ (i:Nat) (j:List Val) (ok:Int) (os:List Nat) (N V O S:Bool),i≤6∧U=6 - i∧j.length≤i∧(∀ u∈j,∃ k n s,u=.mk k n s [] []∧k≠6∧s.length≤TB)∧(ok≠6∧os.length≤TB)∧fr=[.agg [.int .u8 t,.int .u8 d,.int .i32 n,.str s,.list false (refs.map a0O),.int .u8 lack],.box [.int .u8 t,.int .u8 d,.int .i32 n,.str s,.list false (refs.map a0O),.int .u8 lack],.box [.str [],.str [],.list true [],.list true []],.list true [[.str [97]],[.str [98]],[.str [99]],[.str [100]],[.str [101]],[.str [49,48]],[.str [57]],[.str []]],.box [.str [],.str (idS d),.list true [],.list true []],
  .box [.int .u8 2,.int .i64 0,.str s,.list true [],.list true []],.box [.int .u8 1,.int .i64 n,.str [],.list true [],.list true []],.box [.int .u8 5,.int .i64 0,.str [],.list N [],.list true (j.map Val.row)],.box [.int .u8 ok,.int .i64 0,.str os,.list O [],.list S []],.int .i64 i,.undef,.undef,.undef,.undef,.undef,.undef,.undef]) (m:=6) ⟨rfl,0,[],_,_,_,true,_,_,by decide,rfl,by simp,by simp,⟨by decide,by decide⟩,rfl⟩ ?_
 rintro U fr st' ⟨rfl,i,j,ok,os,N,V,O,S,hi,rfl,Y,y,B,rfl⟩;simp +contextual -implicitDefEqProofs only [S3,SS,rA,rS,rL,rE,reduceCtorEq,List.length_map,ltN];rcases D8 (decide (i < refs.length) && ltI (i:Int) 6)with hc|hc
 · have z:i < refs.length:=by rw[Bool.and_eq_true]at hc;exact of_decide_eq_true hc.1
   have Z:i < 6:=by rw[Bool.and_eq_true,ltI_eq]at hc;have:=of_decide_eq_true hc.2;omega
   have E:(refs.map a0O)[i]?=some [.int .u8 refs[i]]:=by rw[List.getElem?_map,List.getElem?_eq_getElem z]; rfl
   have l:=T _ (List.getElem_mem z);revert E l;generalize refs[i]=r;intro E l;have J:=b6r l;have M:0≤r.tmod 8:=Int.tmod_nonneg 8 l;simp (maxSteps:=1000000) (contextual:=true) (implicitDefEqProofs:=false) only [S3,SS,rA,rS,rL,rE,reduceCtorEq,hc,E,J,M,z8,if_false,if_true,b1Z,List.length_map,a0X (show i+1 < 2 ^ 63 by omega),show(j.length+1)*80≤2 ^ 47 by omega];refine wc (m':=6 - (i+1)) (by omega) ⟨rfl,i+1,j++[.mk 8 0 (idS r) [] []],8,_,_,true,_,_,by omega,rfl,by simp; omega,fun u hu=>?_,⟨by decide,b14 r⟩,by rw[List.map_append,List.map_cons,List.map_nil,Val.row0]⟩
   rcases List.mem_append.1 hu with hu|hu
   · exact y u hu
   · exact⟨_,_,_,List.mem_singleton.1 hu,by decide,b14 r⟩
 · simp (maxSteps:=1000000) (contextual:=true) (implicitDefEqProofs:=false) only [S3,SS,rA,rS,rL,rE,reduceCtorEq,hc];refine wd ?_;simp (maxSteps:=1000000) (contextual:=true) (implicitDefEqProofs:=false) only [S3,SS,rA,rS,rL,rE,reduceCtorEq,z16,if_false];have v:j.length≤6∧∀ u∈j,∃ k n s,u=Val.mk k n s [] []∧k≠6∧s.length≤TB:=⟨by omega,y⟩
   refine wg (fun W=>?_) (fun W=>?_)
   · simp (maxSteps:=1000000) (contextual:=true) (implicitDefEqProofs:=false) only [S3,SS,rA,rS,rL,rE,reduceCtorEq];exact b1X (idS d) (a7i d) 1 n n ok [] os j ⟨by decide,by decide⟩ B v _ _ _ _ _ _ _ _ _ _
   · simp (maxSteps:=1000000) (contextual:=true) (implicitDefEqProofs:=false) only [S3,SS,rA,rS,rL,rE,reduceCtorEq];exact b1X (idS d) (a7i d) 2 0 n ok s os j ⟨by decide,D⟩ B v _ _ _ _ _ _ _ _ _ _
end Go.Cb.CodeA
