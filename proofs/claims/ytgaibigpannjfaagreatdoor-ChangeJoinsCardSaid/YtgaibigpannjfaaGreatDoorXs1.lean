import Derived.Test.YtgaibigpannjfaaGreatDoorBaseW
import Derived.Test.YtgaibigpannjfaaGreatDoorQxK
set_option maxRecDepth 20000
set_option linter.all false
namespace Go.Cb.CodeA
open Go Go.Cb
open Nat renaming reduceAdd→rA,reduceSub→rS,reduceLeDiff→rL,reduceEqDiff→rE
attribute [local congr] F2 H7 J0 I8 G6 G7 M4 M5 V.runR_congr
structure Ent where
 t:List Nat
 id:List Nat
 ks:List (List Nat)
 ls:List Val
def Ent.row (e:Ent):List AV:=[.str e.t,.str e.id,.list false (e.ks.map b9),.list false (e.ls.map Val.row)]
def TB:Nat:=2 ^ 47
def Small (v:Val):Prop:=∃ k n s ls,v=.mk k n s [] ls∧((k≠6∧s.length≤TB)∧(k≠5→ls=[]))∧ls.length≤6∧∀ u∈ls,∃ k n s,u=.mk k n s [] []∧k≠6∧s.length≤TB
def personK:List (List Nat):=[[97,103,101],[102,114,105,101,110,100,115],[109,111,111,100],[110,97,109,101],[112,101,116],[116,97,103,115]]
def catK:List (List Nat):=[[108,105,118,101,115],[110,97,109,101],[111,119,110,101,114]]
def dogK:List (List Nat):=[[98,97,114,107,115]]
def idsL:List (List Nat):=[[97],[98],[99],[100],[101],[49,48],[57],[]]
def Fam (t:List Nat) (ks:List (List Nat)):Prop:=(t=[80,101,114,115,111,110]∧ks.Sublist personK)∨t=[67,97,116]∨t=[68,111,103]
theorem Fam.sub {t:List Nat} {ks i:List (List Nat)} (h:Fam t ks) (hs:i.Sublist ks):Fam t i:=by
 rcases h with⟨h,j⟩|h
 · exact .inl ⟨h,hs.trans j⟩
 · exact .inr h
theorem b9W {ks K:List (List Nat)} {i:Nat} (hi:i < ks.length) (h:K.Sublist (ks.take i)):(K++[ks[i]]).Sublist (ks.take (i+1))∧K.Sublist (ks.take (i+1)):=by rw[List.take_add_one,List.getElem?_eq_getElem hi];exact⟨h.append (List.Sublist.refl _),h.trans (List.sublist_append_left _ _)⟩
def e4s (t:List Nat) (ks:List (List Nat)) (ls:List Val):Prop:=t=[80,101,114,115,111,110]→∀ p∈ks.zip ls,p.1=[97,103,101]→∃ m,p.2=.mk 1 m [] [] []∧-2147483648≤m∧m < 2147483648
structure Ent.Good (e:Ent):Prop where
 kl:e.ks.length=e.ls.length
 fam:Fam e.t e.ks
 idl:e.id∈idsL
 le:e.ks.length≤6
 sm:∀ v∈e.ls,Small v
 ag:e4s e.t e.ks e.ls
theorem b72 {ls:List Val} {i:Nat} (h:i < ls.length):(ls.map Val.row)[i]?=some (ls[i]).row:=by rw[List.getElem?_map,List.getElem?_eq_getElem h]; rfl
theorem b6X {ks:List (List Nat)} {i:Nat} (h:i < ks.length):(ks.map b9)[i]?=some [.str ks[i]]:=by rw[List.getElem?_map,List.getElem?_eq_getElem h]; rfl
theorem z2:((2:Int)=0)=False:=by simp
theorem z4:((4:Int)=0)=False:=by simp
theorem z5:((5:Int)=0)=False:=by simp
theorem z7:((7:Int)=0)=False:=by simp
theorem z8:((8:Int)=0)=False:=by simp
theorem z16:((16:Int)=0)=False:=by simp
theorem c0O {t d n:Int} {s:List Nat} {own:Bool} {refs:List (List AV)} {lack:Int} (e:Ent) (hg:e.Good) (o1 o2:Bool) (v0 v3 v5 X Y Z v9 F N v12 O S G I:AV) (st:St) :
 WC (fun k=>exec (m6 e7 k) k a17s120 [v0,.box [.int .u8 t,.int .u8 d,.int .i32 n,.str s,.list own refs,.int .u8 lack],.box [.str [],.str [],.list true [],.list true []],v3,.box [.str e.t,.str e.id,.list o1 (e.ks.map b9),.list o2 (e.ls.map Val.row)],v5,X,Y,Z,v9,F,N,v12,O,S,G,I] st)
  (fun o=>∃ r st',Go.Cb.finK [.bx 2 true 4] (some o)=some (r,st')∧st'=st∧∃ e':Ent,r=.agg e'.row∧e'.Good∧e'.id=e.id∧e'.t=e.t):=by
 have a1:=hg.kl;have a2:=hg.le;simp +contextual -implicitDefEqProofs only [K17,SS,rA,rS,rL,rE,reduceCtorEq,z5,if_false,List.length_map];refine wi (fun h=>?_) (fun h=>?_)
 · have C:1 < e.ks.length:=by
    have h2:ltI 1 (e.ks.length:Int)=true:=by
     rcases E2 (ltI 1 (e.ks.length:Int))with h2|h2
     · exact h2
     · rw[h2,Bool.and_false]at h; cases h
    rw[ltI_eq]at h2;have:=of_decide_eq_true h2;omega
   have L:((e.ks.length:Int)=0)=False:=by simp; intro hh; rw[hh]at C; simp at C
   simp +contextual -implicitDefEqProofs only [K17,SS,rA,rS,rL,rE,reduceCtorEq,z5,if_false,List.length_map,L];refine wh (fun W fr st'=>st'=st∧∃ (i:Nat) (kk:Int) (K:List (List Nat)) (z:List Val),i≤e.ks.length∧W=e.ks.length - i∧K.length=z.length∧K.length≤i∧K.Sublist (e.ks.take i)∧(∀ v∈z,v∈e.ls)∧(∀ p∈K.zip z,p∈e.ks.zip e.ls)∧fr=[v0,.box [.int .u8 t,.int .u8 d,.int .i32 n,.str s,.list own refs,.int .u8 lack],.box [.str [],.str [],.list true [],.list true []],v3,.box [.str e.t,.str e.id,.list o1 (e.ks.map b9),.list o2 (e.ls.map Val.row)],v5,X,Y,Z,v9,F,.int .i64 kk,.list true (K.map b9),.list true (z.map Val.row),.int .i64 i,G,I]) (m:=e.ks.length) ⟨rfl,0,_,[],[],Nat.zero_le _,rfl,rfl,Nat.le_refl _,List.nil_sublist _,by simp,by simp,rfl⟩ ?_;rintro W fr st' ⟨rfl,i,kk,K,z,hi,rfl,B,a0,V,y,E,rfl⟩;simp +contextual -implicitDefEqProofs only [K17,SS,rA,rS,rL,rE,reduceCtorEq,List.length_map,ltN];by_cases j:i < e.ks.length
   · have J:=b6X j;have e2:=b72 (ls:=e.ls) (i:=i) (by omega);have hm:=List.getElem_mem (l:=e.ls) (n:=i) (by omega);have hk:=b9W j V;have M:(e.ks[i],e.ls[i]'(by omega))∈e.ks.zip e.ls:=by rw[← List.getElem_zip (h:=by rw[List.length_zip]; omega)];exact List.getElem_mem _
     revert J e2 hm hk M;generalize e.ks[i]=x;generalize e.ls[i]=v;intro J e2 hm hk M;obtain⟨k1,n1,s1,b0,b1,U⟩:=v.row_cells;rw[U]at e2;simp +contextual -implicitDefEqProofs only [K17,SS,rA,rS,rL,rE,reduceCtorEq,j,List.length_map];refine wi (fun h=>?_) (fun h=>?_)
     · simp +contextual -implicitDefEqProofs only [K17,SS,rA,rS,rL,rE,reduceCtorEq,J,e2,c7q,b2Q,List.length_map,a0Q (show i+1 < 2 ^ 63 by omega),show(K.length+1)*16≤2 ^ 47 by omega,show(z.length+1)*80≤2 ^ 47 by omega];refine we (m':=e.ks.length - (i+1)) (by omega) ⟨rfl,i+1,kk,K++[x],z++[v],j,rfl,by simp[B],by simp; omega,hk.1,fun u hu=>?_,fun u hu=>?_,by rw[List.map_append,List.map_append,← U]; rfl⟩
       rcases List.mem_append.1 hu with hu|hu
       · exact y u hu
       · rw[List.mem_singleton.1 hu]; exact hm
       rw[List.zip_append B]at hu;rcases List.mem_append.1 hu with hu|hu
       · exact E u hu
       · rw[List.mem_singleton.1 hu]; exact M
     · simp +contextual -implicitDefEqProofs only [K17,SS,rA,rS,rL,rE,reduceCtorEq,a0Q (show i+1 < 2 ^ 63 by omega)];exact we (m':=e.ks.length - (i+1)) (by omega) ⟨rfl,i+1,kk,K,z,j,rfl,B,by omega,hk.2,y,E,rfl⟩
   · simp +contextual -implicitDefEqProofs only [K17,SS,rA,rS,rL,rE,reduceCtorEq,j];refine wg ?_;simp +contextual -implicitDefEqProofs only [K17,SS,rA,rS,rL,rE,reduceCtorEq,List.length_map];refine wd ⟨_,_,rfl,rfl,⟨e.t,e.id,K,z⟩,rfl,⟨B,hg.fam.sub (V.trans (List.take_sublist _ _)),hg.idl,show K.length≤6 by omega,fun v hv=>hg.sm v (y v hv),fun ht p hp=>hg.ag ht p (E p hp)⟩,rfl,rfl⟩
 · simp +contextual -implicitDefEqProofs only [K17,SS,rA,rS,rL,rE,reduceCtorEq,z5,if_false,List.length_map];exact wd ⟨_,_,rfl,rfl,e,rfl,hg,rfl,rfl⟩
def idS (d:Int):List Nat:=idsL.getD (d.tmod 8).toNat []
theorem b8Q {d:Int} (j:0≤d):([[.str [97]],[.str [98]],[.str [99]],[.str [100]],[.str [101]],[.str [49,48]],[.str [57]],[.str []]]:List (List AV))[(d.tmod 8).toNat]?=some [.str (idS d)]:=by
 unfold idS;have l:0≤d.tmod 8:=Int.tmod_nonneg 8 j;have t:d.tmod 8 < 8:=Int.tmod_lt_of_pos d (by decide);obtain⟨k,hk⟩:∃ k:Nat,d.tmod 8=k:=⟨(d.tmod 8).toNat,by omega⟩
 rw[hk,Int.toNat_natCast];have i:k < 8:=by omega
 match k,i with
 | 0,_=>rfl
 | 1,_=>rfl
 | 2,_=>rfl
 | 3,_=>rfl
 | 4,_=>rfl
 | 5,_=>rfl
 | 6,_=>rfl
 | 7,_=>rfl
structure Thg where
 t:Int
 d:Int
 n:Int
 s:List Nat
 refs:List Int
 lack:Int
def a1I (r:Int):List AV:=[.int .u8 r]
def Thg.row (x:Thg):List AV:=[.int .u8 x.t,.int .u8 x.d,.int .i32 x.n,.str x.s,.list false (x.refs.map a1I),.int .u8 x.lack]
structure Thg.OK (x:Thg):Prop where
 d:0≤x.d
 refs:∀ r∈x.refs,0≤r
 n:-2147483648≤x.n∧x.n < 2147483648
 s:x.s.length≤TB
theorem Val.row0 (k n:Int) (s:List Nat):(Val.mk k n s [] []).row=[.int .u8 k,.int .i64 n,.str s,.list false [],.list false []]:=by rw[Val.row_eq]; rfl
theorem Val.rowL (k n:Int) (s:List Nat) (ls:List Val):(Val.mk k n s [] ls).row=[.int .u8 k,.int .i64 n,.str s,.list false [],.list false (ls.map Val.row)]:=by rw[Val.row_eq]; rfl
theorem a1p {k n:Int} {s:List Nat} (h:k≠6∧s.length≤TB):Small (.mk k n s [] []):=⟨k,n,s,[],rfl,⟨h,fun _=>rfl⟩,by decide,by simp⟩
def a3r (j:Int) (i:List Val) (md:List Nat) (tk tn:Int) (ts:List Nat) (ok:Int) (os:List Nat):List Val:=[.mk 1 j [] [] [],.mk 5 0 [] [] i,.mk 4 0 md [] [],.mk tk tn ts [] [],.mk ok 0 os [] [],.mk 5 0 [] [] [.mk tk tn ts [] [],.mk 0 0 [] [] []]]
theorem b2d {t:Int} {x:List Val} {md:List Nat} {tk tn:Int} {ts:List Nat} {ok:Int} {os id:List Nat} (z:-2147483648≤t∧t < 2147483648) (j:id∈idsL) (l:tk≠6∧ts.length≤TB) (B:ok≠6∧os.length≤TB) (y:md.length≤TB) (C:x.length≤6∧∀ u∈x,∃ k n s,u=.mk k n s [] []∧k≠6∧s.length≤TB):(⟨[80,101,114,115,111,110],id,personK,a3r t x md tk tn ts ok os⟩:Ent).Good:=by
 refine⟨rfl,.inl ⟨rfl,List.Sublist.refl _⟩,j,show personK.length≤6 by decide,fun v F=>?_,fun _ p E i=>?_⟩
 rotate_left
 · simp only[personK,a3r,List.zip_cons_cons,List.zip_nil_right,List.mem_cons,List.not_mem_nil,or_false]at E;rcases E with rfl|rfl|rfl|rfl|rfl|rfl
   · exact⟨t,rfl,z⟩
   · exact absurd i (show ¬ ([102,114,105,101,110,100,115]:List Nat)=[97,103,101]by decide)
   · exact absurd i (show ¬ ([109,111,111,100]:List Nat)=[97,103,101]by decide)
   · exact absurd i (show ¬ ([110,97,109,101]:List Nat)=[97,103,101]by decide)
   · exact absurd i (show ¬ ([112,101,116]:List Nat)=[97,103,101]by decide)
   · exact absurd i (show ¬ ([116,97,103,115]:List Nat)=[97,103,101]by decide)
 simp only[a3r,List.mem_cons,List.not_mem_nil,or_false]at F;rcases F with rfl|rfl|rfl|rfl|rfl|rfl
 · exact a1p ⟨by decide,by decide⟩
 · exact⟨_,_,_,_,rfl,⟨⟨by decide,by decide⟩,fun h=>absurd rfl h⟩,C.1,C.2⟩
 · exact a1p ⟨by decide,y⟩
 · exact a1p l
 · exact a1p B
 · refine⟨_,_,_,_,rfl,⟨⟨by decide,by decide⟩,fun h=>absurd rfl h⟩,by simp,fun u hu=>?_⟩;simp only[List.mem_cons,List.not_mem_nil,or_false]at hu;rcases hu with rfl|rfl
   · exact⟨_,_,_,rfl,l⟩
   · exact⟨_,_,_,rfl,by decide,by decide⟩
theorem b3h {t d n:Int} {s:List Nat} {own:Bool} {refs:List (List AV)} {lack:Int} (id:List Nat) (j:id∈idsL) (tk tn x ok:Int) (ts os:List Nat) (I:List Val) (X:-2147483648≤x∧x < 2147483648) (M:tk≠6∧ts.length≤TB) (L:ok≠6∧os.length≤TB) (hL:I.length≤6∧∀ u∈I,∃ k n s,u=.mk k n s [] []∧k≠6∧s.length≤TB) (b1 b2 b3 b4 b5 b6:Bool) (v0 v3 v9:AV) (st:St) :
 WC (fun k=>exec (m6 e7 k) k a17s121 [v0,.box [.int .u8 t,.int .u8 d,.int .i32 n,.str s,.list own refs,.int .u8 lack],.box [.str [],.str [],.list true [],.list true []],v3,.box [.str [],.str id,.list true [],.list true []],
  .box [.int .u8 tk,.int .i64 tn,.str ts,.list b1 [],.list b2 []],.box [.int .u8 1,.int .i64 x,.str [],.list true [],.list true []],.box [.int .u8 5,.int .i64 0,.str [],.list b3 [],.list b4 (I.map Val.row)],.box [.int .u8 ok,.int .i64 0,.str os,.list b5 [],.list b6 []],v9,.undef,.undef,.undef,.undef,.undef,.undef,.undef] st)
  (fun o=>∃ r st',Go.Cb.finK [.bx 2 true 4] (some o)=some (r,st')∧st'=st∧∃ e':Ent,r=.agg e'.row∧e'.Good∧e'.id=id):=by
 have fin:∀ (e:Ent) (hg:e.Good) (he:e.id=id) (ks ls:List (List AV)) (h1:ks=e.ks.map b9) (h2:ls=e.ls.map Val.row) (o1 o2:Bool) (w0 Y Z w6 w7 w8 w9 y z B C E F G:AV),WC (fun k=>exec (m6 e7 k) k a17s120 [w0,.box [.int .u8 t,.int .u8 d,.int .i32 n,.str s,.list own refs,.int .u8 lack],.box [.str [],.str [],.list true [],.list true []],Y,.box [.str e.t,.str id,.list o1 ks,.list o2 ls],Z,w6,w7,w8,w9,y,z,B,C,E,F,G] st)
  (fun o=>∃ r st',Go.Cb.finK [.bx 2 true 4] (some o)=some (r,st')∧st'=st∧∃ e':Ent,r=.agg e'.row∧e'.Good∧e'.id=id):=by
  intro e hg he ks ls h1 h2 o1 o2 w0 Y Z w6 w7 w8 w9 y z B C E F G;subst h1; subst h2; subst he;exact(c0O e hg o1 o2 w0 Y Z w6 w7 w8 w9 y z B C E F G st).mono fun o ⟨r,st',h1,h2,e',h3,h4,h5,_⟩=>⟨r,st',h1,h2,e',h3,h4,h5⟩
 have i:∀ (md:List Nat) (J:md.length≤TB) (v9 O v12 S U V W:AV) (b7 b8:Bool),WC (fun k=>exec (m6 e7 k) k a17s120 [v0,.box [.int .u8 t,.int .u8 d,.int .i32 n,.str s,.list own refs,.int .u8 lack],.box [.str [],.str [],.list true [],.list true []],v3,.box [.str [80,101,114,115,111,110],.str id,.list true [[.str [97,103,101]],[.str [102,114,105,101,110,100,115]],[.str [109,111,111,100]],[.str [110,97,109,101]],[.str [112,101,116]],[.str [116,97,103,115]]],.list true [[.int .u8 1,.int .i64 x,.str [],.list false [],.list false []],[.int .u8 5,.int .i64 0,.str [],.list false [],.list false (I.map Val.row)],[.int .u8 4,.int .i64 0,.str md,.list false [],.list false []],[.int .u8 tk,.int .i64 tn,.str ts,.list false [],.list false []],[.int .u8 ok,.int .i64 0,.str os,.list false [],.list false []],[.int .u8 5,.int .i64 0,.str [],.list false [],.list false [[.int .u8 tk,.int .i64 tn,.str ts,.list false [],.list false []],[.int .u8 0,.int .i64 0,.str [],.list false [],.list false []]]]]],
  .box [.int .u8 tk,.int .i64 tn,.str ts,.list b1 [],.list b2 []],.box [.int .u8 1,.int .i64 x,.str [],.list true [],.list true []],.box [.int .u8 5,.int .i64 0,.str [],.list b3 [],.list b4 (I.map Val.row)],.box [.int .u8 ok,.int .i64 0,.str os,.list b5 [],.list b6 []],v9,.box [.int .u8 4,.int .i64 0,.str md,.list b7 [],.list b8 []],O,v12,S,U,V,W] st)
  (fun o=>∃ r st',Go.Cb.finK [.bx 2 true 4] (some o)=some (r,st')∧st'=st∧∃ e':Ent,r=.agg e'.row∧e'.Good∧e'.id=id):=fun md J v9 O v12 S U V W b7 b8=>by
  refine fin ⟨[80,101,114,115,111,110],id,personK,a3r x I md tk tn ts ok os⟩ (b2d X j M L J hL) rfl _ _ rfl ?_ true true v0 v3 _ _ _ _ _ _ _ _ _ _ _ _;simp only[a3r,List.map_cons,List.map_nil,Val.rowL]
 simp (maxSteps:=1000000) (contextual:=true) (implicitDefEqProofs:=false) only [Y0,SS,rA,rS,rL,rE,reduceCtorEq,a17s121.eq_1,Nat.reduceLT,z4,if_false,if_true];rcases E2 (eqI (t.tmod 4) 0)with h0|h0
 · simp (maxSteps:=1000000) (contextual:=true) (implicitDefEqProofs:=false) only [Y0,SS,rA,rS,rL,rE,reduceCtorEq,h0,Nat.reduceLT,z7,if_false,if_true];refine wi (fun l=>?_) (fun l=>?_)
   · simp (maxSteps:=1000000) (contextual:=true) (implicitDefEqProofs:=false) only [Y0,SS,rA,rS,rL,rE,reduceCtorEq,l,Nat.reduceLT,z7,if_false,if_true];exact i _ (by decide) _ _ _ _ _ _ _ _ _
   · simp (maxSteps:=1000000) (contextual:=true) (implicitDefEqProofs:=false) only [Y0,SS,rA,rS,rL,rE,reduceCtorEq,l,Nat.reduceLT,z7,if_false,if_true];exact i _ (by decide) _ _ _ _ _ _ _ _ _
 rcases E2 (eqI (t.tmod 4) 1)with h1|h1
 · simp (maxSteps:=1000000) (contextual:=true) (implicitDefEqProofs:=false) only [Y0,SS,rA,rS,rL,rE,reduceCtorEq,h0,h1,Nat.reduceLT,z7,if_false,if_true];refine wi (fun l=>?_) (fun l=>?_)
   · simp (maxSteps:=1000000) (contextual:=true) (implicitDefEqProofs:=false) only [Y0,SS,rA,rS,rL,rE,reduceCtorEq,l,Nat.reduceLT,z7,if_false,if_true];exact i _ (by decide) _ _ _ _ _ _ _ _ _
   · simp (maxSteps:=1000000) (contextual:=true) (implicitDefEqProofs:=false) only [Y0,SS,rA,rS,rL,rE,reduceCtorEq,l,Nat.reduceLT,z7,if_false,if_true];exact i _ (by decide) _ _ _ _ _ _ _ _ _
 rcases E2 (eqI (t.tmod 4) 2)with h2|h2
 · simp (maxSteps:=1000000) (contextual:=true) (implicitDefEqProofs:=false) only [Y0,SS,rA,rS,rL,rE,reduceCtorEq,h0,h1,h2,Nat.reduceLT,z7,if_false,if_true];refine fin ⟨[67,97,116],id,catK,[.mk 1 x [] [] [],.mk tk tn ts [] [],.mk ok 0 os [] []]⟩ ⟨rfl,.inr (.inl rfl),j,show catK.length≤6 by decide,fun v N=>?_,fun h=>absurd h (show ¬ ([67,97,116]:List Nat)=[80,101,114,115,111,110]by decide)⟩ rfl _ _ rfl ?_ true true _ _ _ _ _ _ _ _ _ _ _ _ _ _
   · simp only[List.mem_cons,List.not_mem_nil,or_false]at N;rcases N with rfl|rfl|rfl
     · exact a1p ⟨by decide,by decide⟩
     · exact a1p M
     · exact a1p L
   · simp only[List.map_cons,List.map_nil,Val.rowL]
 · simp (maxSteps:=1000000) (contextual:=true) (implicitDefEqProofs:=false) only [Y0,SS,rA,rS,rL,rE,reduceCtorEq,h0,h1,h2,Nat.reduceLT,z2,z7,if_false,if_true];refine fin ⟨[68,111,103],id,dogK,[.mk 3 (D9 .i64 (lack.tmod 2)) [] [] []]⟩ ⟨rfl,.inr (.inr rfl),j,show dogK.length≤6 by decide,fun v N=>?_,fun h=>absurd h (show ¬ ([68,111,103]:List Nat)=[80,101,114,115,111,110]by decide)⟩ rfl _ _ rfl ?_ true true _ _ _ _ _ _ _ _ _ _ _ _ _ _
   · simp only[List.mem_cons,List.not_mem_nil,or_false]at N;rw[N];exact a1p ⟨by decide,by decide⟩
   · simp only[List.map_cons,List.map_nil,Val.rowL]
theorem b28 (d:Int):idS d∈idsL:=by
 unfold idS;generalize (d.tmod 8).toNat=i;rcases Nat.lt_or_ge i 8 with h|h
 · rw[List.getD_eq_getElem?_getD,List.getElem?_eq_getElem (show i < idsL.length from h)];exact List.getElem_mem _
 · rw[List.getD_eq_getElem?_getD,List.getElem?_eq_none (show idsL.length≤i from h)];decide
theorem b2K (d:Int):(idS d).length≤TB:=by
 have h:∀ i,(idsL.getD i []).length≤2:=fun i=>by
  rcases Nat.lt_or_ge i 8 with h|h
  · rcases i with _|_|_|_|_|_|_|_|i<;>first|decide|omega
  · rw[List.getD_eq_getElem?_getD,List.getElem?_eq_none (show idsL.length≤i from h)]; decide
 exact Nat.le_trans (h _) (by decide)
theorem c1v {x:Thg} (Z:x.OK) (st:St):EvQ e7 17 [.agg x.row] st (fun a st'=>st'=st∧∃ e:Ent,a=.agg e.row∧e.Good∧e.id=idS x.d):=by
 obtain⟨t,d,n,s,refs,lack⟩:=x;obtain⟨G,S,hn,E⟩:=Z;dsimp only at G S hn E;have hid:=b8Q G;have I:0≤d.tmod 8:=Int.tmod_nonneg 8 G;unfold Thg.row;refine wj (fn:=a17) rfl rfl rfl ?_;simp (maxSteps:=1000000) (contextual:=true) (implicitDefEqProofs:=false) only [Y0,SS,rA,rS,rL,rE,reduceCtorEq,Nat.reduceLT,z8,if_false,hid,I,if_true,List.length_map,a1q (show -9223372036854775808≤n by omega) (show n < 9223372036854775808 by omega)];refine wh (fun U fr st'=>st'=st∧∃ (i:Nat) (j:List Val) (ok:Int) (os:List Nat) (M V N O:Bool),i≤6∧U=6 - i∧j.length≤i∧(∀ u∈j,∃ k n s,u=.mk k n s [] []∧k≠6∧s.length≤TB)∧(ok≠6∧os.length≤TB)∧fr=[.agg [.int .u8 t,.int .u8 d,.int .i32 n,.str s,.list false (refs.map a1I),.int .u8 lack],.box [.int .u8 t,.int .u8 d,.int .i32 n,.str s,.list false (refs.map a1I),.int .u8 lack],.box [.str [],.str [],.list true [],.list true []],.list true [[.str [97]],[.str [98]],[.str [99]],[.str [100]],[.str [101]],[.str [49,48]],[.str [57]],[.str []]],.box [.str [],.str (idS d),.list true [],.list true []],
  .box [.int .u8 2,.int .i64 0,.str s,.list true [],.list true []],.box [.int .u8 1,.int .i64 n,.str [],.list true [],.list true []],.box [.int .u8 5,.int .i64 0,.str [],.list M [],.list true (j.map Val.row)],.box [.int .u8 ok,.int .i64 0,.str os,.list N [],.list O []],.int .i64 i,.undef,.undef,.undef,.undef,.undef,.undef,.undef]) (m:=6) ⟨rfl,0,[],_,_,_,true,_,_,by decide,rfl,by simp,by simp,⟨by decide,by decide⟩,rfl⟩ ?_
 rintro U fr st' ⟨rfl,i,j,ok,os,M,V,N,O,hi,rfl,X,z,C,rfl⟩;simp +contextual -implicitDefEqProofs only [Y0,SS,rA,rS,rL,rE,reduceCtorEq,List.length_map,ltN];rcases E2 (decide (i < refs.length) && ltI (i:Int) 6)with hc|hc
 · have B:i < refs.length:=by rw[Bool.and_eq_true]at hc;exact of_decide_eq_true hc.1
   have Y:i < 6:=by rw[Bool.and_eq_true,ltI_eq]at hc;have:=of_decide_eq_true hc.2;omega
   have F:(refs.map a1I)[i]?=some [.int .u8 refs[i]]:=by rw[List.getElem?_map,List.getElem?_eq_getElem B]; rfl
   have l:=S _ (List.getElem_mem B);revert F l;generalize refs[i]=r;intro F l;have J:=b8Q l;have L:0≤r.tmod 8:=Int.tmod_nonneg 8 l;simp (maxSteps:=1000000) (contextual:=true) (implicitDefEqProofs:=false) only [Y0,SS,rA,rS,rL,rE,reduceCtorEq,hc,F,J,L,z8,if_false,if_true,b2Q,List.length_map,a0Q (show i+1 < 2 ^ 63 by omega),show(j.length+1)*80≤2 ^ 47 by omega];refine we (m':=6 - (i+1)) (by omega) ⟨rfl,i+1,j++[.mk 8 0 (idS r) [] []],8,_,_,true,_,_,by omega,rfl,by simp; omega,fun u hu=>?_,⟨by decide,b2K r⟩,by rw[List.map_append,List.map_cons,List.map_nil,Val.row0]⟩
   rcases List.mem_append.1 hu with hu|hu
   · exact z u hu
   · exact⟨_,_,_,List.mem_singleton.1 hu,by decide,b2K r⟩
 · simp (maxSteps:=1000000) (contextual:=true) (implicitDefEqProofs:=false) only [Y0,SS,rA,rS,rL,rE,reduceCtorEq,hc];refine wg ?_;simp (maxSteps:=1000000) (contextual:=true) (implicitDefEqProofs:=false) only [Y0,SS,rA,rS,rL,rE,reduceCtorEq,z16,if_false];have y:j.length≤6∧∀ u∈j,∃ k n s,u=Val.mk k n s [] []∧k≠6∧s.length≤TB:=⟨by omega,z⟩
   refine wi (fun W=>?_) (fun W=>?_)
   · simp (maxSteps:=1000000) (contextual:=true) (implicitDefEqProofs:=false) only [Y0,SS,rA,rS,rL,rE,reduceCtorEq];exact b3h (idS d) (b28 d) 1 n n ok [] os j hn ⟨by decide,by decide⟩ C y _ _ _ _ _ _ _ _ _ _
   · simp (maxSteps:=1000000) (contextual:=true) (implicitDefEqProofs:=false) only [Y0,SS,rA,rS,rL,rE,reduceCtorEq];exact b3h (idS d) (b28 d) 2 0 n ok s os j hn ⟨by decide,E⟩ C y _ _ _ _ _ _ _ _ _ _
theorem a1Q (a b:List Nat):eqN a b=true↔a=b:=by rw[a5k]; simp
theorem X8 (a:List Nat):eqN a a=true:=(a1Q a a).2 rfl
theorem a02:∀ a:List Nat,m9 a a=false
 | []=>rfl
 | a::x=>by
  have h:Nat.blt a a=false:=by
   rcases E2 (Nat.blt a a)with h|h
   · rw[Nat.blt_eq]at h; omega
   · exact h
  rw[m9,h,a02 x,Bool.and_false];rfl
theorem a7x:∀ a b:List Nat,m9 a b=false→m9 b a=false→a=b
 | [],[],_,_=>rfl
 | [],b::y,h,_=>by simp[m9]at h
 | a::x,[],_,h=>by simp[m9]at h
 | a::x,b::y,i,j=>by
  simp only[m9,Bool.or_eq_false_iff,Bool.and_eq_false_iff,Nat.blt_eq,Bool.not_eq_true]at i j;obtain⟨i,h3⟩:=i;obtain⟨j,h4⟩:=j;have t:¬ a < b:=fun h=>by
   have:Nat.blt a b=true:=by simpa[Nat.blt_eq]using h
   rw[this]at i; cases i
  have e2:¬ b < a:=fun h=>by
   have:Nat.blt b a=true:=by simpa[Nat.blt_eq]using h
   rw[this]at j; cases j
  obtain rfl:a=b:=by omega
  have l:Nat.beq a a=true:=by simp
  rw[l]at h3 h4;rcases h3 with h3|h3
  · cases h3
  rcases h4 with h4|h4
  · cases h4
  rw[a7x x y h3 h4]
theorem a0K:∀ a b c:List Nat,m9 a b=true→m9 b c=true→m9 a c=true
 | _,[],_,h,_=>by simp[m9]at h
 | _,_::_,[],_,h=>by simp[m9]at h
 | [],_::_,_::_,_,_=>rfl
 | a::x,b::y,c::z,j,i=>by
  simp only[m9,Bool.or_eq_true,Bool.and_eq_true,Nat.blt_eq,Nat.beq_eq]at j i ⊢;rcases j with j|⟨j,l⟩
  · rcases i with i|⟨i,_⟩
    · left; omega
    · left; omega
  · rcases i with i|⟨i,t⟩
    · left; omega
    · right; exact⟨by omega,a0K x y z l t⟩
def l6 (es:List Ent):List AV:=es.flatMap Ent.row
theorem a09 (es:List Ent):∀ i,(l6 es).drop (i*4)=l6 (es.drop i):=by
 induction es with
 | nil=>intro i; simp[l6]
 | cons e es j =>
  intro i;cases i with
  | zero=>rw[Nat.zero_mul,List.drop_zero,List.drop_zero]
  | succ i =>rw[List.drop_succ_cons,← j i,show(i+1)*4=i*4+4 by omega,← List.drop_drop,show l6 (e::es)=e.row++l6 es from rfl];rw[List.drop_drop,show i*4+4=4+i*4 by omega,← List.drop_drop];rfl
theorem a0e (es:List Ent):(l6 es).length=es.length*4:=by
 induction es with
 | nil=>rfl
 | cons e es i=>rw[show l6 (e::es)=e.row++l6 es from rfl,List.length_append,i,List.length_cons]; simp[Ent.row]; omega
theorem a3T (a b:List Ent):l6 (a++b)=l6 a++l6 b:=by simp[l6]
theorem a9E {es:List Ent} {i:Nat} (h:i < es.length):m4 true 4 ((l6 es).drop (i*4))=some (.agg es[i].row):=by rw[a09,List.drop_eq_getElem_cons h];rfl
def EntsAt (v:AV) (es:List Ent) (st:St):Prop:=(v=.nils∧es=[])∨∃ o,v=.sl o 0 es.length 4∧st[o]?=some (.cells (l6 es))
theorem c1N (l:List Thg) (h:∀ x∈l,x.OK) (st:St):EvQ e7 7 [.list false (l.map Thg.row)] st (fun a st'=>st'=st∧∃ es:List Ent,a=.list false (es.map Ent.row)∧es.length≤12∧∀ e∈es,e.Good):=by
 refine wj (fn:=a7) rfl rfl rfl ?_;simp +contextual -implicitDefEqProofs only [K7,SS,rA,rS,rL,rE,reduceCtorEq];refine wh (fun E fr st'=>st'=st∧∃ (i:Nat) (es:List Ent),i≤12∧E=12 - i∧es.length≤i∧(∀ e∈es,e.Good)∧fr=[.list false (l.map Thg.row),.list true [],.list true (es.map Ent.row),.int .i64 i]) (m:=12) ⟨rfl,0,[],by decide,rfl,by simp,by simp,rfl⟩ ?_;rintro E fr st' ⟨rfl,i,es,hi,rfl,J,hg,rfl⟩;simp +contextual -implicitDefEqProofs only [K7,SS,rA,rS,rL,rE,reduceCtorEq,List.length_map,ltN];rcases E2 (decide (i < l.length) && ltI (i:Int) 12)with hc|hc
 · have j:i < l.length:=by rw[Bool.and_eq_true]at hc;exact of_decide_eq_true hc.1
   have I:i < 12:=by rw[Bool.and_eq_true,ltI_eq]at hc;have:=of_decide_eq_true hc.2;omega
   have y:(l.map Thg.row)[i]?=some l[i].row:=by rw[List.getElem?_map,List.getElem?_eq_getElem j]; rfl
   have B:=h _ (List.getElem_mem j);revert y B;generalize l[i]=x;intro y B;have C:=c1v B st';have ex:x.row=[.int .u8 x.t,.int .u8 x.d,.int .i32 x.n,.str x.s,.list false (x.refs.map a1I),.int .u8 x.lack]:=rfl;rw[ex]at y C;simp +contextual -implicitDefEqProofs only [K7,SS,rA,rS,rL,rE,reduceCtorEq,hc,y];refine wc C rfl rfl ?_;rintro _ _ ⟨rfl,e,rfl,G,_⟩;have z:s5 4 (es.map Ent.row)=true:=a4n fun r L=>by obtain⟨v,_,rfl⟩:=List.mem_map.1 L;rfl
   have F:e.row=[.str e.t,.str e.id,.list false (e.ks.map b9),.list false (e.ls.map Val.row)]:=rfl;rw[F];simp +contextual -implicitDefEqProofs only [K7,SS,rA,rS,rL,rE,reduceCtorEq,z,List.length_map,a0Q (show i+1 < 2 ^ 63 by omega),show(es.length+1)*80≤2 ^ 47 by omega];refine we (m':=12 - (i+1)) (by omega) ⟨rfl,i+1,es++[e],by omega,rfl,by simp; omega,fun u hu=>?_,by rw[List.map_append]; rfl⟩
   rcases List.mem_append.1 hu with hu|hu
   · exact hg u hu
   · rw[List.mem_singleton.1 hu]; exact G
 · simp +contextual -implicitDefEqProofs only [K7,SS,rA,rS,rL,rE,reduceCtorEq,hc];refine wg ?_;simp +contextual -implicitDefEqProofs only [K7,SS,rA,rS,rL,rE,reduceCtorEq];exact wd ⟨_,_,rfl,rfl,es,rfl,by omega,hg⟩
theorem d68 (a b:List Nat):s4 .gtr (.str a) (.str b)=some (.bool !(m9 a b || eqN a b)):=e8 rfl
theorem Ent.row_w (e:Ent):List.map AV.weak1 e.row=e.row:=rfl
def a6X (a b:List Nat):Int:=if m9 a b then -1 else if eqN a b then 0 else 1
theorem c2y (e:Ent) (id:List Nat) (st:St):EvQ e7 77 [.agg e.row,.str id] st (fun a st'=>st'=st∧a=.int .i64 (a6X e.id id)):=by
 have i:e.row=[.str e.t,.str e.id,.list false (e.ks.map b9),.list false (e.ls.map Val.row)]:=rfl;rw[i];refine wj (fn:=a77) rfl rfl rfl ?_;simp +contextual -implicitDefEqProofs only [K77,SS,rA,rS,rL,rE,reduceCtorEq];rcases E2 (m9 e.id id)with h|h
 · simp +contextual -implicitDefEqProofs only [K77,SS,rA,rS,rL,rE,reduceCtorEq,h];exact wd ⟨_,_,rfl,rfl,by rw[a6X,if_pos h]; rfl⟩
 rcases E2 (eqN e.id id)with h2|h2
 · simp +contextual -implicitDefEqProofs only [K77,SS,rA,rS,rL,rE,reduceCtorEq,h,h2,d68,Bool.false_or,Bool.not_true,Bool.not_false];exact wd ⟨_,_,rfl,rfl,by rw[a6X,h,if_neg (by decide),if_pos h2]; rfl⟩
 · simp +contextual -implicitDefEqProofs only [K77,SS,rA,rS,rL,rE,reduceCtorEq,h,h2,d68,Bool.false_or,Bool.not_true,Bool.not_false];exact wd ⟨_,_,rfl,rfl,by rw[a6X,h,if_neg (by decide),h2,if_neg (by decide)]; rfl⟩
abbrev j0 (es:List Ent):Prop:=es.Pairwise fun a b=>m9 a.id b.id=true
def F5 (id:List Nat):List Ent→Nat
 | []=>0
 | e::es=>if m9 e.id id then F5 id es+1 else 0
def C4 (id:List Nat) (es:List Ent):Bool:=match es[F5 id es]? with
 | some e=>eqN e.id id
 | none=>false
theorem a9e (id:List Nat):∀ es:List Ent,F5 id es≤es.length
 | []=>Nat.le_refl _
 | e::es=>by
  rw[F5];split
  · have:=a9e id es; rw[List.length_cons]; omega
  · omega
theorem b3n (id:List Nat):∀ (es:List Ent) (i:Nat),i≤es.length→(∀ k (h:k < es.length),k < i→m9 es[k].id id=true)→(∀ h:i < es.length,m9 es[i].id id=false)→F5 id es=i
 | [],i,h,_,_=>by simp at h; subst h; rfl
 | e::es,0,_,_,h2=>by rw[F5,show m9 e.id id=false from h2 (by simp)]; rfl
 | e::es,i+1,h,h1,h2=>by have j:m9 e.id id=true:=h1 0 (by simp) (by omega);rw[F5,if_pos j];rw[b3n id es i (by simpa using h) (fun k hk l=>h1 (k+1) (by simpa using hk) (by omega)) (fun hi=>h2 (by simpa using hi))]
theorem a4c {es:List Ent} {o:Nat} {st:St} (h:st[o]?=some (.cells (l6 es))) {i:Nat} (hi:i < es.length) (call:e9) (bx:AV):H3 true 4 call [.ptr o (i*4)] bx st=some (.agg es[i].row,bx,st):=by rw[R.ldAn_ptr,h];dsimp only;rw[a9E hi];rfl
theorem d8N {i j:Nat} (h:i+j < 2 ^ 62):D9 .i64 (Int.fdiv (D9 .u64 (D9 .i64 (a5t (i:Int) (j:Int)))) 2)=(((i+j) / 2:Nat):Int):=by
 have l:D9 .i64 ((i:Int)+(j:Int))=(i:Int)+(j:Int):=a1q (by omega) (by omega);rw[addI_eq,l];have:D9 .u64 ((i:Int)+(j:Int))=(i:Int)+(j:Int):=by rw[Y6];simp only[IntKind.wrap,IntKind.signed,IntKind.bits,Bool.false_and,Bool.false_eq_true,if_false];omega
 rw[this];have e:Int.fdiv ((i:Int)+(j:Int)) 2=(((i+j) / 2:Nat):Int):=by rw[Int.fdiv_eq_ediv_of_nonneg _ (by omega)];omega
 rw[e,a1q (by omega) (by omega)]
theorem e4a (a:Int):s4 .shr (.int .u64 a) (.int .u64 1)=some (.int .u64 (Int.fdiv a 2)):=by
 have:(2:Int) ^ (min (1:Int).toNat IntKind.u64.bits)=2:=by decide
 simp only[s4];rw[this];rfl
theorem c0E {es:List Ent} {v:AV} {st:St} (h:EntsAt v es st) (hs:j0 es) (hl:es.length≤100000) (id:List Nat):EvQ e7 76 [v,.str id,.func 77 [] []] st (fun a st'=>st'=st∧a=.tuple [.int .i64 (F5 id es),.bool (C4 id es)]):=by
 rcases h with⟨rfl,rfl⟩|⟨o,rfl,S⟩
 · refine wj (fn:=a76) rfl rfl rfl ?_;simp +contextual -implicitDefEqProofs only [K76,SS,rA,rS,rL,rE,reduceCtorEq];refine wh (fun L fr st'=>st'=st∧fr=[.nils,.str id,.func 77 [] [],.int .i64 0,.bool false,.int .i64 0,.int .i64 0,.int .i64 0,.undef]) (m:=0) ⟨rfl,rfl⟩ ?_;rintro L fr st' ⟨rfl,rfl⟩;simp +contextual -implicitDefEqProofs only [K76,SS,rA,rS,rL,rE,reduceCtorEq,show ltI 0 0=false from rfl];refine wg ?_;simp +contextual -implicitDefEqProofs only [K76,SS,rA,rS,rL,rE,reduceCtorEq,show ltI 0 0=false from rfl];exact wd ⟨_,_,rfl,rfl,rfl⟩
 · refine wj (fn:=a76) rfl rfl rfl ?_;simp +contextual -implicitDefEqProofs only [K76,SS,rA,rS,rL,rE,reduceCtorEq];refine wh (fun L fr st'=>st'=st∧∃ (i j:Nat) (U:AV),i≤j∧j≤es.length∧L=j - i∧(∀ k (h:k < es.length),k < i→m9 es[k].id id=true)∧(∀ k (h:k < es.length),j≤k→m9 es[k].id id=false)∧fr=[.sl o 0 es.length 4,.str id,.func 77 [] [],.int .i64 0,.bool false,.int .i64 es.length,.int .i64 i,.int .i64 j,U]) (m:=es.length) ⟨rfl,0,es.length,_,Nat.zero_le _,Nat.le_refl _,by omega,fun k _ hk=>absurd hk (Nat.not_lt_zero _),fun k M J=>by omega,rfl⟩ ?_;rintro L fr st' ⟨rfl,i,j,U,W,O,rfl,M,J,rfl⟩;simp +contextual -implicitDefEqProofs only [K76,SS,rA,rS,rL,rE,reduceCtorEq,ltN];by_cases I:i < j
   · have hm:(i+j) / 2 < es.length:=by omega
     have X:i≤(i+j) / 2:=by omega
     have V:(i+j) / 2 < j:=by omega
     have z:=d8N (i:=i) (j:=j) (by omega);have u:=fun call bx=>a4c S hm call bx
     have l:=c2y (es[(i+j) / 2]) id st';have y:m9 es[(i+j) / 2].id id=true→∀ k (h:k < es.length),k < (i+j) / 2+1→m9 es[k].id id=true:=fun G k hk N=>by
      by_cases e:k=(i+j) / 2
      · subst e; exact G
      · exact a0K _ _ _ (List.pairwise_iff_getElem.1 hs k ((i+j) / 2) hk hm (by omega)) G
     have t:m9 es[(i+j) / 2].id id=false→∀ k (h:k < es.length),(i+j) / 2≤k→m9 es[k].id id=false:=fun G k hk N=>by
      by_cases e:k=(i+j) / 2
      · subst e; exact G
      · rcases E2 (m9 es[k].id id)with h3|h3
        · have:=a0K _ _ _ (List.pairwise_iff_getElem.1 hs ((i+j) / 2) k hm hk (by omega)) h3;rw[G]at this; cases this
        · exact h3
     revert u l y t z;generalize Y:(i+j) / 2=m at *
     generalize es[m]=e;intro z u l y t;have F:((m:Int) < (es.length:Int))=True:=by simp; omega
     simp +contextual -implicitDefEqProofs only [K76,SS,rA,rS,rL,rE,reduceCtorEq,I,ltN,e4a,z,F,if_true,u,Ent.row_w];refine wl l rfl rfl ?_;rintro _ _ ⟨rfl,rfl⟩;unfold a6X;rcases E2 (m9 e.id id)with hq|hq
     · simp +contextual -implicitDefEqProofs only [K76,SS,rA,rS,rL,rE,reduceCtorEq,hq,if_true,show ltI (-1) 0=true from rfl,a0Q (show m+1 < 2 ^ 63 by omega)];exact we (m':=j - (m+1)) (by omega) ⟨rfl,m+1,j,_,by omega,O,rfl,y hq,J,rfl⟩
     · have:ltI (if eqN e.id id=true then 0 else 1) 0=false:=by split<;>rfl
       simp +contextual -implicitDefEqProofs only [K76,SS,rA,rS,rL,rE,reduceCtorEq,hq,if_false,this,Bool.false_eq_true];exact we (m':=m - i) (by omega) ⟨rfl,i,m,_,by omega,by omega,rfl,M,t hq,rfl⟩
   · simp +contextual -implicitDefEqProofs only [K76,SS,rA,rS,rL,rE,reduceCtorEq,I,ltN];refine wg ?_;obtain rfl:i=j:=by omega
     have B:F5 id es=i:=b3n id es i O M (fun h=>J i h (Nat.le_refl _));by_cases x:i < es.length
     · have u:=fun call bx=>a4c S x call bx
       have l:=c2y (es[i]) id st';have E:=J i x (Nat.le_refl _);have C:C4 id es=eqN es[i].id id:=by rw[C4,B,List.getElem?_eq_getElem x]
       have F:((i:Int) < (es.length:Int))=True:=by simp; omega
       rw[B,C];revert u l E;generalize es[i]=e;intro u l E;simp +contextual -implicitDefEqProofs only [K76,SS,rA,rS,rL,rE,reduceCtorEq,x,ltN,F,if_true,u,Ent.row_w];refine wl l rfl rfl ?_;rintro _ _ ⟨rfl,rfl⟩;simp +contextual -implicitDefEqProofs only [K76,SS,rA,rS,rL,rE,reduceCtorEq];refine wd ⟨_,_,rfl,rfl,?_⟩;have:eqI (a6X e.id id) 0=eqN e.id id:=by unfold a6X;rw[E,if_neg (by decide)];cases eqN e.id id<;>rfl
       rw[this];rfl
     · have C:C4 id es=false:=by rw[C4,B,List.getElem?_eq_none (by omega)]
       rw[B,C];simp +contextual -implicitDefEqProofs only [K76,SS,rA,rS,rL,rE,reduceCtorEq,x,ltN];exact wd ⟨_,_,rfl,rfl,rfl⟩
theorem a2c (es:List Ent):(l6 es).map AV.weak1=l6 es:=by
 induction es with
 | nil=>rfl
 | cons e es i=>rw[show l6 (e::es)=e.row++l6 es from rfl,List.map_append,i]; rfl
theorem EntsAt.gr {v:AV} {es:List Ent} {st st':St} (h:EntsAt v es st) (hg:Gr st st'):EntsAt v es st':=by
 rcases h with h|⟨o,i,j⟩
 · exact .inl h
 · exact .inr ⟨o,i,hg o _ j⟩
theorem EntsAt.wk {v:AV} {es:List Ent} {st:St} (h:EntsAt v es st):v.weak=v∧v.weak1=v∧v.strip=v∧v.stripB=v∧v.plain=true∧v.cells=[v]∧v.cellsW=[v]:=by rcases h with⟨rfl,_⟩|⟨o,rfl,_⟩<;>exact⟨rfl,rfl,rfl,rfl,rfl,rfl,rfl⟩
theorem a9o (st:St):EvQ e7 21 [.nils] st (fun a st'=>a=.nils∧st'=st):=EvQ.of_ext (fn:=a21) rfl rfl (r:=(.nils,st)) rfl ⟨rfl,rfl⟩
theorem a6V {es:List Ent} {o:Nat} {st:St} (h:st[o]?=some (.cells (l6 es))) (hl:es.length≤100000):EvQ e7 21 [.sl o 0 es.length 4] st (fun a st'=>a=.sl st.length 0 es.length 4∧st'=st++[.cells (l6 es)]):=by refine EvQ.of_ext (fn:=a21) (e:=Z9 4 80) (r:=(.sl st.length 0 es.length 4,st++[.cells (l6 es)])) rfl rfl ?_ ⟨rfl,rfl⟩;unfold Z9;dsimp only;rw[h];dsimp only;rw[if_pos ⟨rfl,by rw[a0e]; omega,by omega⟩,List.drop_zero,← a0e,List.take_length,a2c]
theorem c0C (x:Ent) (st:St):EvQ e7 38 [.nils,.int .i64 0,.list false [x.row]] st (fun a st'=>a=.sl st.length 0 1 4∧st'=st++[.cells (l6 [x])]) :=
 EvQ.of_ext (fn:=a38) (e:=O8 4 80) (r:=(.sl st.length 0 1 4,st++[.cells (l6 [x])])) rfl rfl (by unfold O8; dsimp only; rw[if_pos ⟨rfl,rfl⟩]; rfl) ⟨rfl,rfl⟩
theorem a3f (es:List Ent):∀ i,(l6 es).take (i*4)=l6 (es.take i):=by
 induction es with
 | nil=>intro i; simp[l6]
 | cons e es j =>
  intro i;cases i with
  | zero=>rw[Nat.zero_mul,List.take_zero,List.take_zero]; rfl
  | succ i =>rw[List.take_succ_cons,show l6 (e::es)=e.row++l6 es from rfl,show l6 (e::es.take i)=e.row++l6 (es.take i)from rfl,← j i,show(i+1)*4=i*4+4 by omega];rfl
theorem c6q {es:List Ent} {o:Nat} {st:St} (x:Ent) (h:st[o]?=some (.cells (l6 es))) (hl:es.length≤100000) {i:Nat} (hi:i≤es.length):EvQ e7 38 [.sl o 0 es.length 4,.int .i64 i,.list false [x.row]] st (fun a st'=>a=.sl st.length 0 (es.length+1) 4∧st'=st.set o .dead++[.cells (l6 (es.take i++x::es.drop i))]):=by refine EvQ.of_ext (fn:=a38) (e:=O8 4 80) (r:=(.sl st.length 0 (es.length+1) 4,st.set o .dead++[.cells (l6 (es.take i++x::es.drop i))])) rfl rfl ?_ ⟨rfl,rfl⟩;simp only[O8,h];rw[if_pos ⟨trivial,by omega,by omega,a0e es,rfl,by omega⟩,Int.toNat_natCast,M7,a3f,a09,a3T];rw[show l6 (x::es.drop i)=x.row++l6 (es.drop i)from rfl,List.map_append,List.map_append,a2c,a2c,List.append_assoc];rfl
theorem a8a {es:List Ent} {v:AV} {st:St} (h:EntsAt v es st) (hs:j0 es) (hl:es.length≤100000) (id:List Nat):EvQ e7 37 [.agg [v],.str id] st (fun a st'=>st'=st∧a=.tuple [.int .i64 (F5 id es),.bool (C4 id es)]):=by obtain⟨w1,j,l,t,i,u,x⟩:=h.wk;refine wj (fn:=a37) rfl rfl rfl ?_;simp +contextual -implicitDefEqProofs only [K37,SS,rA,rS,rL,rE,reduceCtorEq,w1,j,l,t,i,u,x];refine wc (c0E h hs hl id) (by simp only[y9,i]; rfl) (by simp only[List.map_cons,List.map_nil,w1]; rfl) ?_;rintro _ _ ⟨rfl,rfl⟩;simp +contextual -implicitDefEqProofs only [K37,SS,rA,rS,rL,rE,reduceCtorEq];exact wd ⟨_,_,rfl,rfl,rfl⟩
def i8 (es:List Ent) (x:Ent):List Ent:=if C4 x.id es then es.set (F5 x.id es) x else es.take (F5 x.id es)++x::es.drop (F5 x.id es)
theorem a3t {id:List Nat} {es:List Ent} (h:C4 id es=true):F5 id es < es.length:=by
 unfold C4 at h;cases i:es[F5 id es]? with
 | none=>rw[i]at h; cases h
 | some e=>exact(List.getElem?_eq_some_iff.1 i).1
theorem c4p {es:List Ent} (x:Ent):∀ {i:Nat},i < es.length→B7 (l6 es) (i*4) x.row=l6 (es.set i x):=by intro i hi;unfold B7;rw[show x.row.length=4 from rfl,a3f,show i*4+4=(i+1)*4 by omega,a09,List.set_eq_take_append_cons_drop,if_pos hi,a3T,List.append_assoc];rfl
def a5i (v:AV) (es:List Ent) (x:Ent):St:=match v with
 | .nils=>[]
 | _=>if C4 x.id es then []else [.dead]
theorem b1I {o n:Nat} {es:List Ent} {x:Ent} (h:C4 x.id es=true):a5i (.sl o 0 n 4) es x=[]:=by unfold a5i; rw[h]; rfl
theorem b0j {o n:Nat} {es:List Ent} {x:Ent} (h:C4 x.id es=false):a5i (.sl o 0 n 4) es x=[.dead]:=by unfold a5i; rw[h]; rfl
theorem b0v {es:List Ent} {v:AV} {st:St} (h:EntsAt v es st) (hs:j0 es) (hl:es.length≤100000) (x:Ent):EvQ e7 16 [.agg [v],.agg x.row] st (fun a st'=>a=.agg [.sl (st.length+(a5i v es x).length) 0 (i8 es x).length 4]∧st'=st++(a5i v es x++[.cells (l6 (i8 es x))])):=by
 obtain⟨w1,F,G,I,J,L,M⟩:=h.wk;have ex:x.row=[.str x.t,.str x.id,.list false (x.ks.map b9),.list false (x.ls.map Val.row)]:=rfl;rw[ex];refine wj (fn:=a16) rfl rfl rfl ?_;simp +contextual -implicitDefEqProofs only [K16,SS,rA,rS,rL,rE,reduceCtorEq,w1,F,G,I,J,L,M];rcases h with⟨rfl,rfl⟩|⟨o,rfl,C⟩
 · refine wc (a9o st) rfl rfl ?_;rintro _ _ ⟨rfl,rfl⟩;simp +contextual -implicitDefEqProofs only [K16,SS,rA,rS,rL,rE,reduceCtorEq];refine wc (a8a (.inl ⟨rfl,rfl⟩) hs hl x.id) rfl rfl ?_;rintro _ st ⟨rfl,rfl⟩;simp +contextual -implicitDefEqProofs only [K16,SS,rA,rS,rL,rE,reduceCtorEq,show C4 x.id []=false from rfl,show F5 x.id []=0 from rfl];have hi:=c0C x st;rw[ex]at hi;refine wc hi rfl rfl ?_;rintro _ _ ⟨rfl,rfl⟩;simp +contextual -implicitDefEqProofs only [K16,SS,rA,rS,rL,rE,reduceCtorEq];exact wd ⟨_,_,rfl,rfl,rfl⟩
 · refine wc (a6V C hl) rfl rfl ?_;rintro _ _ ⟨rfl,rfl⟩;simp +contextual -implicitDefEqProofs only [K16,SS,rA,rS,rL,rE,reduceCtorEq];refine wc (a8a (.inr ⟨o,rfl,Gr.app st _ _ _ C⟩) hs hl x.id) rfl rfl ?_;rintro _ _ ⟨rfl,rfl⟩;simp +contextual -implicitDefEqProofs only [K16,SS,rA,rS,rL,rE,reduceCtorEq];refine wi (fun j=>?_) (fun j=>?_)
   · have z:=a3t j;have B:((F5 x.id es:Int) < (es.length:Int))=True:=by simp; omega
     have y:=a03 st (.cells (l6 es));have i:=c4p x z;rw[ex]at i;have l:F5 x.id es*4+4≤(l6 es).length:=by rw[a0e]; omega
     simp +contextual -implicitDefEqProofs only [K16,SS,rA,rS,rL,rE,reduceCtorEq,B,if_true,y,l,i,a4u];refine wd ⟨_,_,rfl,by rw[b1I j,i8,if_pos j,List.length_set]; rfl,by rw[b1I j,i8,if_pos j,← i]; rfl⟩
   · have E:=a9e x.id es;have hi:=c6q x (a03 st (.cells (l6 es))) hl E;rw[ex]at hi;simp +contextual -implicitDefEqProofs only [K16,SS,rA,rS,rL,rE,reduceCtorEq];refine wc hi rfl rfl ?_;rintro _ _ ⟨rfl,rfl⟩;simp +contextual -implicitDefEqProofs only [K16,SS,rA,rS,rL,rE,reduceCtorEq,a4u];have u:(es.take (F5 x.id es)++x::es.drop (F5 x.id es)).length=es.length+1:=by simp; omega
     refine wd ⟨_,_,rfl,?_,?_⟩
     · rw[b0j j,i8,if_neg (by rw[j]; decide),u,List.length_append]; rfl
     · rw[b0j j,i8,if_neg (by rw[j]; decide)];simp
theorem a5Q {e:Ent} {id:List Nat} (h:m9 e.id id=true) (es:List Ent):F5 id (e::es)=F5 id es+1∧C4 id (e::es)=C4 id es:=by
 have i:F5 id (e::es)=F5 id es+1:=by rw[F5,if_pos h]
 refine⟨i,?_⟩;unfold C4;rw[i,List.getElem?_cons_succ]
theorem a6b {e:Ent} {id:List Nat} (h:m9 e.id id=false) (es:List Ent):F5 id (e::es)=0∧C4 id (e::es)=eqN e.id id:=by
 have i:F5 id (e::es)=0:=by rw[F5,h]; rfl
 refine⟨i,?_⟩;unfold C4;rw[i,List.getElem?_cons_zero]
theorem a4y (e:Ent) (es:List Ent) (x:Ent):i8 (e::es) x=if m9 e.id x.id then e::i8 es x else if eqN e.id x.id then x::es else x::e::es:=by
 unfold i8;rcases E2 (m9 e.id x.id)with h|h
 · obtain⟨i,j⟩:=a5Q h es;rw[i,j,if_pos h];split
   · rw[List.set_cons_succ]
   · rw[List.take_succ_cons,List.drop_succ_cons]; rfl
 · obtain⟨i,j⟩:=a6b h es;simp only[i,j,h,Bool.false_eq_true,if_false];rfl
theorem a5A (x:Ent):i8 [] x=[x]:=rfl
theorem a9s {es:List Ent} {x y:Ent} (h:y∈i8 es x):y=x∨y∈es:=by
 induction es with
 | nil=>rw[a5A]at h; exact .inl (List.mem_singleton.1 h)
 | cons e es i =>
  rw[a4y]at h;split at h
  · rcases List.mem_cons.1 h with h|h
    · exact .inr (h ▸ List.mem_cons_self ..)
    · exact(i h).imp id (List.mem_cons_of_mem _)
  · split at h
    · rcases List.mem_cons.1 h with h|h
      · exact .inl h
      · exact .inr (List.mem_cons_of_mem _ h)
    · exact List.mem_cons.1 h
theorem a9H {a b c:List Nat} (h:eqN a b=true) (i:m9 a c=true):m9 b c=true:=by rw[← (a1Q a b).1 h]; exact i
theorem L0 {es:List Ent} (hs:j0 es) (x:Ent):j0 (i8 es x):=by
 induction es with
 | nil=>rw[a5A]; exact List.pairwise_singleton _ _
 | cons e es l =>
  rw[a4y];obtain⟨i,j⟩:=List.pairwise_cons.1 hs;rcases E2 (m9 e.id x.id)with h|h
  · rw[if_pos h];refine List.pairwise_cons.2 ⟨fun y hy=>?_,l j⟩;rcases a9s hy with rfl|hy
    · exact h
    · exact i y hy
  · rw[if_neg (by rw[h]; decide)];rcases E2 (eqN e.id x.id)with h3|h3
    · rw[if_pos h3];exact List.pairwise_cons.2 ⟨fun y hy=>a9H h3 (i y hy),j⟩
    · rw[if_neg (by rw[h3]; decide)];have h4:m9 x.id e.id=true:=by
       rcases E2 (m9 x.id e.id)with h4|h4
       · exact h4
       · rw[a7x _ _ h h4,X8]at h3; cases h3
      refine List.pairwise_cons.2 ⟨fun y hy=>?_,hs⟩;rcases List.mem_cons.1 hy with rfl|hy
      · exact h4
      · exact a0K _ _ _ h4 (i y hy)
theorem b74 (es:List Ent) (x:Ent):(i8 es x).length≤es.length+1:=by
 unfold i8;split
 · rw[List.length_set]; omega
 · simp; omega
def ofE (l:List Ent):List Ent:=l.foldl i8 []
theorem b0X (l:List Ent) (x:Ent):ofE (l++[x])=i8 (ofE l) x:=by unfold ofE; rw[List.foldl_append]; rfl
theorem b91 {α:Type} {P:List α→Prop} (i:P []) (j:∀ l x,P l→P (l++[x])) (l:List α):P l:=by
 have:∀ m:List α,P m.reverse:=by
  intro m;induction m with
  | nil=>exact i
  | cons x m t=>rw[List.reverse_cons]; exact j _ _ t
 have:=this l.reverse
 rwa [List.reverse_reverse]at this
theorem b8E (l:List Ent):j0 (ofE l)∧(ofE l).length≤l.length∧∀ y∈ofE l,y∈l:=by
 refine b91 (P:=fun l=>j0 (ofE l)∧(ofE l).length≤l.length∧∀ y∈ofE l,y∈l) ⟨List.Pairwise.nil,Nat.le_refl _,fun y hy=>by cases hy⟩ (fun l x t=>?_) l;obtain⟨i,u,j⟩:=t;rw[b0X];refine⟨L0 i x,by have:=b74 (ofE l) x; rw[List.length_append]; simp; omega,fun y hy=>?_⟩;rcases a9s hy with rfl|hy
 · exact List.mem_append_right _ (by simp)
 · exact List.mem_append_left _ (j y hy)
theorem d4T {es:List Ent} {i:Nat} (h:i < es.length):(es.map Ent.row)[i]?=some (es[i]).row:=by rw[List.getElem?_map,List.getElem?_eq_getElem h]; rfl
def InOf (st:St) (es:List Ent) (v:AV) (st':St):Prop:=(v=.nils∧es=[]∧st'=st)∨∃ ext:St,v=.sl (st.length+ext.length) 0 es.length 4∧st'=st++(ext++[.cells (l6 es)])
theorem InOf.at {st st':St} {es:List Ent} {v:AV} (h:InOf st es v st'):EntsAt v es st':=by
 rcases h with⟨rfl,rfl,rfl⟩|⟨ext,rfl,rfl⟩
 · exact .inl ⟨rfl,rfl⟩
 · refine .inr ⟨_,rfl,?_⟩;rw[← List.append_assoc,← List.length_append];exact a03 _ _
theorem c63 {i st:St} {es:List Ent} {v:AV} (h:InOf i es v st) (hs:j0 es) (hl:es.length≤100000) (x:Ent):EvQ e7 16 [.agg [v],.agg x.row] st (fun a st'=>∃ j,a=.agg [j]∧InOf i (i8 es x) j st'∧Gr st st') :=
 (b0v h.at hs hl x).mono (by
  rintro _ _ ⟨rfl,rfl⟩;refine⟨_,rfl,.inr ?_,Gr.app _ _⟩;rcases h with⟨rfl,rfl,rfl⟩|⟨ext,rfl,rfl⟩
  · exact⟨a5i .nils [] x,rfl,rfl⟩
  · refine⟨ext++[.cells (l6 es)]++a5i (.sl (i.length+ext.length) 0 es.length 4) es x,?_,?_⟩
    · simp only[List.length_append,Nat.add_assoc]
    · simp only[List.append_assoc])
theorem e8v (l:List Ent) (hl:l.length≤100000) (st:St):EvQ e7 6 [.list false (l.map Ent.row)] st (fun a st'=>∃ v,a=.agg [v]∧InOf st (ofE l) v st'∧Gr st st'):=by
 refine wj (fn:=a6) rfl rfl rfl ?_;simp +contextual -implicitDefEqProofs only [K6,SS,rA,rS,rL,rE,reduceCtorEq,List.length_map];refine wh (fun O fr st'=>Gr st st'∧∃ (i:Nat) (v v3:AV),i≤l.length∧O=l.length - i∧InOf st (ofE (l.take i)) v st'∧fr=[.list false (l.map Ent.row),.box [.nils],.box [v],v3,.list false (l.map Ent.row),.int .i64 l.length,.int .i64 i]) (m:=l.length) ⟨Gr.refl st,0,_,_,Nat.zero_le _,rfl,.inl ⟨rfl,rfl,rfl⟩,rfl⟩ ?_;rintro O fr st' ⟨hg,i,v,v3,hi,rfl,u,rfl⟩;have S:=u.at;obtain⟨w1,B,I,J,L,M,N⟩:=S.wk;simp +contextual -implicitDefEqProofs only [K6,SS,rA,rS,rL,rE,reduceCtorEq,ltN,w1,B,I,J,L,M,N];by_cases j:i < l.length
 · have C:=d4T j;have y:ofE (l.take (i+1))=i8 (ofE (l.take i)) l[i]:=by rw[List.take_add_one,List.getElem?_eq_getElem j];exact b0X _ _
   obtain⟨hs,G,_⟩:=b8E (l.take i);have E:=c63 u hs (by rw[List.length_take]at G; omega) l[i];revert C y E;generalize l[i]=x;intro C y E;have ex:x.row=[.str x.t,.str x.id,.list false (x.ks.map b9),.list false (x.ls.map Val.row)]:=rfl;rw[ex]at C E;simp +contextual -implicitDefEqProofs only [K6,SS,rA,rS,rL,rE,reduceCtorEq,j,C,w1,B,I,J,L,M,N];refine wc E (by simp only[R.allPlain_c,R.allPlain_n,R.plain_agg]; rfl) (by simp only[List.map_cons,List.map_nil,T6,B]; rfl) ?_;rintro _ st2 ⟨v',rfl,z,F⟩;obtain⟨U,V,W,X,Y,Z,u7⟩:=z.at.wk;simp +contextual -implicitDefEqProofs only [K6,SS,rA,rS,rL,rE,reduceCtorEq,U,V,W,X,Y,Z,u7,a0Q (show i+1 < 2 ^ 63 by omega)];exact we (m':=l.length - (i+1)) (by omega) ⟨hg.trans F,i+1,v',_,j,rfl,y ▸ z,rfl⟩
 · rw[List.take_of_length_le (by omega)]at u;simp +contextual -implicitDefEqProofs only [K6,SS,rA,rS,rL,rE,reduceCtorEq,j];refine wg ?_;simp +contextual -implicitDefEqProofs only [K6,SS,rA,rS,rL,rE,reduceCtorEq,w1,B,I,J,L,M,N];exact wd ⟨_,_,rfl,v,by simp only[List.take_succ_cons,List.take_zero,List.map_cons,List.map_nil,B],u,hg⟩
theorem a7A (n:Int):eqI n n=true:=by rw[eqI_eq]; simp
inductive Val.Fin:Val→Prop
 | mk (k n:Int) (s:List Nat) (ks:List (List Nat)) (ls:List Val) (hk:ks.length < 2 ^ 62) (hl:ls.length < 2 ^ 62) (h:∀ v∈ls,Val.Fin v):Val.Fin (.mk k n s ks ls)
theorem d19 {v:Val} (h:v.Fin):∀ st:St,EvQ e7 46 [.agg v.row,.agg v.row] st (fun a st'=>st'=st∧a=.bool true):=by
 induction h with
 | mk k n s ks ls hk hl h C =>
  intro st;rw[Val.row_eq];refine wj (fn:=a46) rfl rfl rfl ?_;simp +contextual -implicitDefEqProofs only [K46,SS,rA,rS,rL,rE,reduceCtorEq,a7A,X8,Bool.not_true,List.length_map];refine wh (fun z fr st'=>st'=st∧∃ (i:Nat),i≤ks.length∧z=ks.length - i∧fr=[.agg [.int .u8 k,.int .i64 n,.str s,.list false (ks.map b9),.list false (ls.map Val.row)],.agg [.int .u8 k,.int .i64 n,.str s,.list false (ks.map b9),.list false (ls.map Val.row)],.box [.int .u8 k,.int .i64 n,.str s,.list false (ks.map b9),.list false (ls.map Val.row)],.box [.int .u8 k,.int .i64 n,.str s,.list false (ks.map b9),.list false (ls.map Val.row)],.bool false,.int .i64 i,.undef]) (m:=ks.length) ⟨rfl,0,Nat.zero_le _,rfl,rfl⟩ ?_;rintro z fr st' ⟨rfl,i,hi,rfl,rfl⟩;by_cases t:i < ks.length
  · have e2:=b6X t;simp +contextual -implicitDefEqProofs only [K46,SS,rA,rS,rL,rE,reduceCtorEq,List.length_map,t,e2,X8,Bool.not_true,a0Q (show i+1 < 2 ^ 63 by omega)];exact we (m':=ks.length - (i+1)) (by omega) ⟨rfl,i+1,t,rfl,rfl⟩
  simp +contextual -implicitDefEqProofs only [K46,SS,rA,rS,rL,rE,reduceCtorEq,List.length_map,t];refine wg ?_;simp +contextual -implicitDefEqProofs only [K46,SS,rA,rS,rL,rE,reduceCtorEq];refine wh (fun z fr y=>y=st'∧∃ (j:Nat),j≤ls.length∧z=ls.length - j∧fr=[.agg [.int .u8 k,.int .i64 n,.str s,.list false (ks.map b9),.list false (ls.map Val.row)],.agg [.int .u8 k,.int .i64 n,.str s,.list false (ks.map b9),.list false (ls.map Val.row)],.box [.int .u8 k,.int .i64 n,.str s,.list false (ks.map b9),.list false (ls.map Val.row)],.box [.int .u8 k,.int .i64 n,.str s,.list false (ks.map b9),.list false (ls.map Val.row)],.bool false,.int .i64 i,.int .i64 j]) (m:=ls.length) ⟨rfl,0,Nat.zero_le _,rfl,rfl⟩ ?_;rintro z fr y ⟨rfl,j,G,rfl,rfl⟩;by_cases l:j < ls.length
  · have e2:=b72 l;have x:=C _ (List.getElem_mem l);revert e2 x;generalize ls[j]=u;intro e2 x;obtain⟨k1,I,J,E,F,B⟩:=u.row_cells;rw[B]at e2;simp only[B]at x;simp +contextual -implicitDefEqProofs only [K46,SS,rA,rS,rL,rE,reduceCtorEq,List.length_map,l,e2];refine wc (x _) rfl rfl ?_;rintro _ _ ⟨rfl,rfl⟩;simp +contextual -implicitDefEqProofs only [K46,SS,rA,rS,rL,rE,reduceCtorEq,Bool.not_true,a0Q (show j+1 < 2 ^ 63 by omega)];exact we (m':=ls.length - (j+1)) (by omega) ⟨rfl,j+1,l,rfl,rfl⟩
  · simp +contextual -implicitDefEqProofs only [K46,SS,rA,rS,rL,rE,reduceCtorEq,List.length_map,l];refine wg ?_;simp +contextual -implicitDefEqProofs only [K46,SS,rA,rS,rL,rE,reduceCtorEq];exact wd ⟨_,_,rfl,rfl,rfl⟩
theorem Small.fin {v:Val} (h:Small v):v.Fin:=by
 obtain⟨k,n,s,ls,rfl,_,hl,hu⟩:=h;refine .mk _ _ _ _ _ (by decide) (by omega) fun u i=>?_
 obtain⟨k,n,s,rfl,_⟩:=hu u i;exact .mk _ _ _ _ _ (by decide) (by decide) fun u hu=>by cases hu
theorem b8T {e:Ent} (h:e.Good) (st:St):EvQ e7 20 [.agg e.row,.agg e.row] st (fun a st'=>st'=st∧a=.bool true):=by have hk:=h.kl;have hl:=h.le;have hs:=d19 (v:=.mk 0 0 [] e.ks e.ls) (.mk _ _ _ _ _ (by omega) (by omega) fun v j=>(h.sm v j).fin) st;rw[Val.row_eq]at hs;have i:e.row=[.str e.t,.str e.id,.list false (e.ks.map b9),.list false (e.ls.map Val.row)]:=rfl;rw[i];refine wj (fn:=a20) rfl rfl rfl ?_;simp +contextual -implicitDefEqProofs only [K20,SS,rA,rS,rL,rE,reduceCtorEq,X8];refine wc hs rfl rfl ?_;rintro _ _ ⟨rfl,rfl⟩;simp +contextual -implicitDefEqProofs only [K20,SS,rA,rS,rL,rE,reduceCtorEq];exact wd ⟨_,_,rfl,rfl,rfl⟩
theorem a9M {es:List Ent} (hl:es.length≤100000) {v:AV} {st:St} (j:EntsAt v es st):EvQ e7 11 [.agg [v]] st (fun a st'=>EntsAt a es st'∧Gr st st'):=by
 rcases j with⟨rfl,rfl⟩|⟨o,rfl,i⟩
 · refine wj (fn:=a11) rfl rfl rfl ?_;simp +contextual -implicitDefEqProofs only [K11,SS,rA,rS,rL,rE,reduceCtorEq];refine wc (a9o st) rfl rfl ?_;rintro _ _ ⟨rfl,rfl⟩;simp +contextual -implicitDefEqProofs only [K11,SS,rA,rS,rL,rE,reduceCtorEq];exact wd ⟨_,_,rfl,.inl ⟨rfl,rfl⟩,Gr.refl _⟩
 · refine wj (fn:=a11) rfl rfl rfl ?_;simp +contextual -implicitDefEqProofs only [K11,SS,rA,rS,rL,rE,reduceCtorEq];refine wc (a6V i hl) rfl rfl ?_;rintro _ _ ⟨rfl,rfl⟩;simp +contextual -implicitDefEqProofs only [K11,SS,rA,rS,rL,rE,reduceCtorEq];exact wd ⟨_,_,rfl,.inr ⟨_,rfl,a03 st _⟩,Gr.app _ _⟩
theorem b4G {es:List Ent} {i:Nat} (h:i < es.length):(4≤(List.drop (i*4) (l6 es)).length)=True∧List.map AV.weak1 (List.take 4 (List.drop (i*4) (l6 es)))=es[i].row:=by
 have j:=a9E h;rw[R.takeVal_t]at j;split at j
 · rename_i hl;exact⟨by simpa using hl,by simpa using j⟩
 · cases j
def Ent.none:Ent:=⟨[],[],[],[]⟩
def n9 (es:List Ent) (id:List Nat):Option Ent:=if C4 id es then es[F5 id es]? else .none
theorem S9 {es:List Ent} {id:List Nat} {e:Ent} (h:n9 es id=some e):e∈es∧eqN e.id id=true:=by
 unfold n9 at h;split at h
 · rename_i i;unfold C4 at i;rw[h]at i;exact⟨List.mem_of_getElem? h,i⟩
 · cases h
theorem b56 {es:List Ent} {v:AV} {st:St} (z:EntsAt v es st) (hs:j0 es) (hl:es.length≤100000) (id:List Nat):EvQ e7 176 [.agg [v],.str id] st (fun a st'=>st'=st∧a=.tuple [.agg ((n9 es id).getD Ent.none).row,.bool (n9 es id).isSome]):=by
 have j:=a8a z hs hl id;have x:=fun h=>a3t (es:=es) (id:=id) h
 rcases z with⟨rfl,rfl⟩|⟨o,rfl,C⟩
 · refine wj (fn:=a176) rfl rfl rfl ?_;simp +contextual -implicitDefEqProofs only [b1g,SS,rA,rS,rL,rE,reduceCtorEq];refine wc j rfl rfl ?_;rintro _ _ ⟨rfl,rfl⟩;simp +contextual -implicitDefEqProofs only [b1g,SS,rA,rS,rL,rE,reduceCtorEq,show C4 id []=false from rfl,Bool.not_false];exact wd ⟨_,_,rfl,rfl,rfl⟩
 · refine wj (fn:=a176) rfl rfl rfl ?_;simp +contextual -implicitDefEqProofs only [b1g,SS,rA,rS,rL,rE,reduceCtorEq];refine wc j rfl rfl ?_;rintro _ _ ⟨rfl,rfl⟩;unfold n9;rcases E2 (C4 id es)with h|h
   · have l:=x h;obtain⟨u,i⟩:=b4G l;have y:((F5 id es:Int) < (es.length:Int))=True:=by simp; omega
     rw[if_pos h,List.getElem?_eq_getElem l];revert i;generalize es[F5 id es]=e;intro i;have B:e.row=[.str e.t,.str e.id,.list false (e.ks.map b9),.list false (e.ls.map Val.row)]:=rfl;rw[B]at i;simp +contextual -implicitDefEqProofs only [b1g,SS,rA,rS,rL,rE,reduceCtorEq,h,Bool.not_true,y,if_true,C,u,i];exact wd ⟨_,_,rfl,rfl,rfl⟩
   · rw[h,if_neg (by decide)];simp +contextual -implicitDefEqProofs only [b1g,SS,rA,rS,rL,rE,reduceCtorEq,h,Bool.not_false];exact wd ⟨_,_,rfl,rfl,rfl⟩
def l8 (es:List Ent) (id:List Nat):List Ent:=es.filter fun e=>!eqN e.id id
theorem b3m {id:List Nat}:∀ {es:List Ent},(∀ y∈es,eqN y.id id=false)→l8 es id=es
 | [],_=>rfl
 | e::es,h=>by
  rw[l8,List.filter_cons,h e (List.mem_cons_self ..)];have i:=b3m (es:=es) fun y j=>h y (List.mem_cons_of_mem _ j)
  rw[l8]at i;simp[i]
theorem a6D {a b:List Nat} (h:m9 a b=true):eqN b a=false:=by
 rcases E2 (eqN b a)with h2|h2
 · rw[(a1Q _ _).1 h2,a02]at h; cases h
 · exact h2
theorem b0R {a b:List Nat} (h:m9 a b=true):eqN a b=false:=by
 rcases E2 (eqN a b)with h2|h2
 · rw[(a1Q _ _).1 h2,a02]at h; cases h
 · exact h2
theorem a7k (id:List Nat):∀ {es:List Ent},j0 es→l8 es id=if C4 id es then es.take (F5 id es)++es.drop (F5 id es+1)else es
 | [],_=>rfl
 | e::es,hs=>by
  obtain⟨j,l⟩:=List.pairwise_cons.1 hs;have t:l8 (e::es) id=if !eqN e.id id then e::l8 es id else l8 es id:=by rw[l8,List.filter_cons]; rfl
  rw[t];rcases E2 (m9 e.id id)with h|h
  · obtain⟨p1,p2⟩:=a5Q h es;rw[p1,p2,b0R h,a7k id l];cases C4 id es<;>rfl
  · obtain⟨p1,p2⟩:=a6b h es;rw[p1,p2];have key:∀ y∈es,eqN y.id id=false:=fun y u=>by
     have i:=j y u;rcases E2 (eqN e.id id)with h3|h3
     · rw[← (a1Q _ _).1 h3]; exact a6D i
     · have h4:m9 id e.id=true:=by
        rcases E2 (m9 id e.id)with h4|h4
        · exact h4
        · rw[a7x _ _ h h4,X8]at h3; cases h3
       exact a6D (a0K _ _ _ h4 i)
    rw[b3m key];cases eqN e.id id<;>rfl
theorem c3I {es:List Ent} (hs:j0 es) (id:List Nat):j0 (l8 es id)∧(l8 es id).length≤es.length∧(∀ y∈l8 es id,y∈es)∧∀ y∈l8 es id,eqN y.id id=false :=
 ⟨hs.filter _,List.length_filter_le _ _,fun y i=>(List.mem_filter.1 i).1,fun y i=>by simpa using(List.mem_filter.1 i).2⟩
theorem e0j {es:List Ent} {o:Nat} {st:St} (h:st[o]?=some (.cells (l6 es))) (hl:es.length≤100000) {i:Nat} (hi:i < es.length):EvQ e7 183 [.sl o 0 es.length 4,.int .i64 i,.int .i64 ((i+1:Nat):Int)] st (fun a st'=>a=.sl st.length 0 (es.length - 1) 4∧st'=st.set o .dead++[.cells (l6 (es.take i++es.drop (i+1)))]):=by refine EvQ.of_ext (fn:=a183) (e:=a0f 4 80) (r:=(.sl st.length 0 (es.length - 1) 4,st.set o .dead++[.cells (l6 (es.take i++es.drop (i+1)))])) rfl rfl ?_ ⟨rfl,rfl⟩;simp only[a0f,h];rw[if_pos ⟨trivial,by omega,by omega,by omega,a0e es,by omega⟩,Int.toNat_natCast,a0p,a3f,a09,a3T,List.map_append,a2c,a2c]
theorem b78 {es:List Ent} {o:Nat} {st:St} (t:st[o]?=some (.cells (l6 es))) (hs:j0 es) (hl:es.length≤100000) {id:List Nat} (j:C4 id es=true):EvQ e7 115 [.agg [.sl o 0 es.length 4],.str id] st (fun a st'=>a=.agg [.sl (st.length+1) 0 (es.length - 1) 4]∧st'=st++[.dead,.cells (l6 (l8 es id))]):=by
 have i:=a8a (.inr ⟨o,rfl,t⟩) hs hl id;have l:=a3t j;rw[a7k id hs,if_pos j];refine wj (fn:=a115) rfl rfl rfl ?_;simp +contextual -implicitDefEqProofs only [b3B,SS,rA,rS,rL,rE,reduceCtorEq];refine wc i rfl rfl ?_;rintro _ st ⟨rfl,rfl⟩;simp +contextual -implicitDefEqProofs only [b3B,SS,rA,rS,rL,rE,reduceCtorEq,j,Bool.not_true];refine wc (a6V t hl) rfl rfl ?_;rintro _ _ ⟨rfl,rfl⟩;simp +contextual -implicitDefEqProofs only [b3B,SS,rA,rS,rL,rE,reduceCtorEq,a0Q (show F5 id es+1 < 2 ^ 63 by omega)];refine wc (e0j (a03 _ (.cells (l6 es))) hl l) rfl rfl ?_;rintro _ _ ⟨rfl,rfl⟩;simp +contextual -implicitDefEqProofs only [b3B,SS,rA,rS,rL,rE,reduceCtorEq,a4u];refine wd ⟨_,_,rfl,?_,?_⟩
 · rw[List.length_append]; rfl
 · rw[List.append_assoc]; rfl
end Go.Cb.CodeA
