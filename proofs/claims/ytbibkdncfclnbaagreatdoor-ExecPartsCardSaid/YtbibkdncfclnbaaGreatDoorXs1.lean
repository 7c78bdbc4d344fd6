import Derived.Test.YtbibkdncfclnbaaGreatDoorC6
set_option maxRecDepth 20000
set_option linter.unusedSimpArgs false
set_option linter.unusedVariables false
namespace Go.Cb.CodeA
open Go Go.Cb
open Nat renaming reduceAdd→rA,reduceSub→rS,reduceLeDiff→rL,reduceEqDiff→rE
attribute [local congr] i7 j1 j2 j3 j0 i8 k6 j9 V.runR_congr
structure Ent where
 t:List Nat
 id:List Nat
 ks:List (List Nat)
 ls:List Val
def Ent.row (e:Ent):List AV:=[.str e.t,.str e.id,.list false (e.ks.map e8),.list false (e.ls.map Val.row)]
def TB:Nat:=2 ^ 47
def Small (v:Val):Prop:=∃ k n s ls,v=.mk k n s [] ls∧((k≠6∧s.length≤TB)∧(k≠5→ls=[]))∧ls.length≤6∧∀ u∈ls,∃ k n s,u=.mk k n s [] []∧k≠6∧s.length≤TB
structure Ent.Good (e:Ent):Prop where
 kl:e.ks.length=e.ls.length
 le:e.ks.length≤6
 sm:∀ v∈e.ls,Small v
theorem b1s {ls:List Val} {i:Nat} (h:i < ls.length):(ls.map Val.row)[i]?=some (ls[i]).row:=by
 rw [AQ,AD h]; rfl
theorem b7U {ks:List (List Nat)} {i:Nat} (h:i < ks.length):(ks.map e8)[i]?=some [.str ks[i]]:=by
 rw [AQ,AD h]; rfl
theorem a4u (ks:List (List Nat)):l3 1 (ks.map e8)=true:=U9 fun r hr=>by
 obtain ⟨x,_,rfl⟩:=List.mem_map.1 hr
 rfl
theorem z2:((2:Int)=0)=False:=by simp
theorem z4:((4:Int)=0)=False:=by simp
theorem z5:((5:Int)=0)=False:=by simp
theorem z7:((7:Int)=0)=False:=by simp
theorem z8:((8:Int)=0)=False:=by simp
theorem z16:((16:Int)=0)=False:=by simp
theorem c0w {t d n:Int} {s:List Nat} {own:Bool} {refs:List (List AV)} {lack:Int} (e:Ent) (hg:e.Good) (o1 o2:Bool) (v0 v3 v5 v6 v7 v8 v9 v10 v11 v12 v13 v14 v15 v16:AV) (st:St) :
 WC (fun k=>i6 (k7 tbl k) k a25s120 [v0,.box [.int .u8 t,.int .u8 d,.int .i32 n,.str s,.list own refs,.int .u8 lack],.box [.str [],.str [],.list true [],.list true []],v3,.box [.str e.t,.str e.id,.list o1 (e.ks.map e8),.list o2 (e.ls.map Val.row)],v5,v6,v7,v8,v9,v10,v11,v12,v13,v14,v15,v16] st)
  (fun o=>∃ r st',Go.Cb.finK [.bx 2 true 4] (some o)=some (r,st')∧st'=st∧∃ e':Ent,r=.agg e'.row∧e'.Good∧e'.id=e.id∧e'.t=e.t):=by
 have hkl:=hg.kl
 have hle:=hg.le
 simp +contextual -implicitDefEqProofs only [K25,SS,rA,rS,rL,rE,reduceCtorEq,z5,if_false,AF]
 refine WC.br (fun h=>?_) (fun h=>?_)
 · have hlen:1 < e.ks.length:=by
    have h2:ltI 1 (e.ks.length:Int)=true:=by
     rcases e9 (ltI 1 (e.ks.length:Int)) with h2|h2
     · exact h2
     · rw [h2,Bool.and_false] at h; cases h
    rw [ltI_eq] at h2
    have:=of_decide_eq_true h2
    omega
   have hl0:((e.ks.length:Int)=0)=False:=by simp; intro hh; rw [hh] at hlen; simp at hlen
   simp +contextual -implicitDefEqProofs only [K25,SS,rA,rS,rL,rE,reduceCtorEq,z5,if_false,AF,hl0]
   refine WC.loopR (fun mm fr st'=>st'=st∧∃ (i:Nat) (kk:Int) (K:List (List Nat)) (Ls:List Val),i≤e.ks.length∧mm=e.ks.length - i∧K.length=Ls.length∧K.length≤i∧(∀ v∈Ls,v∈e.ls)∧fr=[v0,.box [.int .u8 t,.int .u8 d,.int .i32 n,.str s,.list own refs,.int .u8 lack],.box [.str [],.str [],.list true [],.list true []],v3,.box [.str e.t,.str e.id,.list o1 (e.ks.map e8),.list o2 (e.ls.map Val.row)],v5,v6,v7,v8,v9,v10,.int .i64 kk,.list true (K.map e8),.list true (Ls.map Val.row),.int .i64 i,v15,v16]) (m:=e.ks.length) ⟨rfl,0,_,[],[],Nat.zero_le _,rfl,rfl,AJ _,by simp,rfl⟩ ?_
   rintro mm fr st' ⟨rfl,i,kk,K,Ls,hi,rfl,hKL,hKi,hsub,rfl⟩
   simp +contextual -implicitDefEqProofs only [K25,SS,rA,rS,rL,rE,reduceCtorEq,AF,ltN]
   by_cases hil:i < e.ks.length
   · have e1:=b7U hil
     have e2:=b1s (ls:=e.ls) (i:=i) (by omega)
     have hm:=List.getElem_mem (l:=e.ls) (n:=i) (by omega)
     revert e1 e2 hm
     generalize e.ks[i]=x
     generalize e.ls[i]=v
     intro e1 e2 hm
     obtain ⟨k1,n1,s1,ks1,ls1,er⟩:=v.row_cells
     rw [er] at e2
     simp +contextual -implicitDefEqProofs only [K25,SS,rA,rS,rL,rE,reduceCtorEq,hil,AF]
     refine WC.br (fun h=>?_) (fun h=>?_)
     · simp +contextual -implicitDefEqProofs only [K25,SS,rA,rS,rL,rE,reduceCtorEq,e1,e2,a2e,a0U,AF,s9 (show i+1 < 2 ^ 63 by omega),show (K.length+1)*16≤2 ^ 47 by omega,show (Ls.length+1)*80≤2 ^ 47 by omega]
       refine WC.next (m':=e.ks.length - (i+1)) (by omega) ⟨rfl,i+1,kk,K++[x],Ls++[v],hil,rfl,by simp [hKL],by simp; omega,fun u hu=>?_,by rw [List.map_append,List.map_append,← er]; rfl⟩
       rcases AP.1 hu with hu|hu
       · exact hsub u hu
       · rw [List.mem_singleton.1 hu]; exact hm
     · simp +contextual -implicitDefEqProofs only [K25,SS,rA,rS,rL,rE,reduceCtorEq,s9 (show i+1 < 2 ^ 63 by omega)]
       exact WC.next (m':=e.ks.length - (i+1)) (by omega) ⟨rfl,i+1,kk,K,Ls,hil,rfl,hKL,by omega,hsub,rfl⟩
   · simp +contextual -implicitDefEqProofs only [K25,SS,rA,rS,rL,rE,reduceCtorEq,hil]
     refine WC.leave ?_
     simp +contextual -implicitDefEqProofs only [K25,SS,rA,rS,rL,rE,reduceCtorEq,AF]
     refine WC.ret ⟨_,_,rfl,rfl,⟨e.t,e.id,K,Ls⟩,rfl,⟨hKL,show K.length≤6 by omega,fun v hv=>hg.sm v (hsub v hv)⟩,rfl,rfl⟩
 · simp +contextual -implicitDefEqProofs only [K25,SS,rA,rS,rL,rE,reduceCtorEq,z5,if_false,AF]
   exact WC.ret ⟨_,_,rfl,rfl,e,rfl,hg,rfl,rfl⟩
def idsL:List (List Nat):=[[97],[98],[99],[100],[101],[49,48],[57],[]]
def idS (d:Int):List Nat:=idsL.getD (d.tmod 8).toNat []
theorem b6w {d:Int} (h0:0≤d):([[.str [97]],[.str [98]],[.str [99]],[.str [100]],[.str [101]],[.str [49,48]],[.str [57]],[.str []]]:List (List AV))[(d.tmod 8).toNat]?=some [.str (idS d)]:=by
 unfold idS
 have h1:0≤d.tmod 8:=Int.tmod_nonneg 8 h0
 have h2:d.tmod 8 < 8:=Int.tmod_lt_of_pos d (by decide)
 obtain ⟨k,hk⟩:∃ k:Nat,d.tmod 8=k:=⟨(d.tmod 8).toNat,by omega⟩
 rw [hk,Int.toNat_natCast]
 have hk8:k < 8:=by omega
 match k,hk8 with
 | 0,_=>rfl
 | 1,_=>rfl
 | 2,_=>rfl
 | 3,_=>rfl
 | 4,_=>rfl
 | 5,_=>rfl
 | 6,_=>rfl
 | 7,_=>rfl
structure Thg where
 t:Int
 d:Int
 n:Int
 s:List Nat
 refs:List Int
 lack:Int
def a0L (r:Int):List AV:=[.int .u8 r]
def Thg.row (x:Thg):List AV:=[.int .u8 x.t,.int .u8 x.d,.int .i32 x.n,.str x.s,.list false (x.refs.map a0L),.int .u8 x.lack]
structure Thg.OK (x:Thg):Prop where
 d:0≤x.d
 refs:∀ r∈x.refs,0≤r
 n:-9223372036854775808≤x.n∧x.n < 9223372036854775808
 s:x.s.length≤TB
def personK:List (List Nat):=[[97,103,101],[102,114,105,101,110,100,115],[109,111,111,100],[110,97,109,101],[112,101,116],[116,97,103,115]]
def catK:List (List Nat):=[[108,105,118,101,115],[110,97,109,101],[111,119,110,101,114]]
def dogK:List (List Nat):=[[98,97,114,107,115]]
theorem Val.row0 (k n:Int) (s:List Nat):(Val.mk k n s [] []).row=[.int .u8 k,.int .i64 n,.str s,.list false [],.list false []]:=by rw [Val.row_eq]; rfl
theorem Val.rowL (k n:Int) (s:List Nat) (ls:List Val):(Val.mk k n s [] ls).row=[.int .u8 k,.int .i64 n,.str s,.list false [],.list false (ls.map Val.row)]:=by rw [Val.row_eq]; rfl
theorem a0c {k n:Int} {s:List Nat} (h:k≠6∧s.length≤TB):Small (.mk k n s [] []):=⟨k,n,s,[],rfl,⟨h,fun _=>rfl⟩,by decide,by simp⟩
def a4l (nm:Int) (Ls:List Val) (md:List Nat) (tk tn:Int) (ts:List Nat) (ok:Int) (os:List Nat):List Val:=[.mk 1 nm [] [] [],.mk 5 0 [] [] Ls,.mk 4 0 md [] [],.mk tk tn ts [] [],.mk ok 0 os [] [],.mk 5 0 [] [] [.mk tk tn ts [] [],.mk 0 0 [] [] []]]
theorem b3o {nm:Int} {Ls:List Val} {md:List Nat} {tk tn:Int} {ts:List Nat} {ok:Int} {os t id:List Nat} (htk:tk≠6∧ts.length≤TB) (hok:ok≠6∧os.length≤TB) (hmd:md.length≤TB) (hL:Ls.length≤6∧∀ u∈Ls,∃ k n s,u=.mk k n s [] []∧k≠6∧s.length≤TB):(⟨t,id,personK,a4l nm Ls md tk tn ts ok os⟩:Ent).Good:=by
 refine ⟨rfl,show personK.length≤6 by decide,fun v hv=>?_⟩
 simp only [a4l,List.mem_cons,List.not_mem_nil,or_false] at hv
 rcases hv with rfl|rfl|rfl|rfl|rfl|rfl
 · exact a0c ⟨by decide,by decide⟩
 · exact ⟨_,_,_,_,rfl,⟨⟨by decide,by decide⟩,fun h=>absurd rfl h⟩,hL.1,hL.2⟩
 · exact a0c ⟨by decide,hmd⟩
 · exact a0c htk
 · exact a0c hok
 · refine ⟨_,_,_,_,rfl,⟨⟨by decide,by decide⟩,fun h=>absurd rfl h⟩,by simp,fun u hu=>?_⟩
   simp only [List.mem_cons,List.not_mem_nil,or_false] at hu
   rcases hu with rfl|rfl
   · exact ⟨_,_,_,rfl,htk⟩
   · exact ⟨_,_,_,rfl,by decide,by decide⟩
theorem b4V {t d n:Int} {s:List Nat} {own:Bool} {refs:List (List AV)} {lack:Int} (id:List Nat) (tk tn nm ok:Int) (ts os:List Nat) (Ls:List Val) (htk:tk≠6∧ts.length≤TB) (hok:ok≠6∧os.length≤TB) (hL:Ls.length≤6∧∀ u∈Ls,∃ k n s,u=.mk k n s [] []∧k≠6∧s.length≤TB) (b1 b2 b3 b4 b5 b6:Bool) (v0 v3 v9:AV) (st:St) :
 WC (fun k=>i6 (k7 tbl k) k a25s121 [v0,.box [.int .u8 t,.int .u8 d,.int .i32 n,.str s,.list own refs,.int .u8 lack],.box [.str [],.str [],.list true [],.list true []],v3,.box [.str [],.str id,.list true [],.list true []],
  .box [.int .u8 tk,.int .i64 tn,.str ts,.list b1 [],.list b2 []],.box [.int .u8 1,.int .i64 nm,.str [],.list true [],.list true []],.box [.int .u8 5,.int .i64 0,.str [],.list b3 [],.list b4 (Ls.map Val.row)],.box [.int .u8 ok,.int .i64 0,.str os,.list b5 [],.list b6 []],v9,.undef,.undef,.undef,.undef,.undef,.undef,.undef] st)
  (fun o=>∃ r st',Go.Cb.finK [.bx 2 true 4] (some o)=some (r,st')∧st'=st∧∃ e':Ent,r=.agg e'.row∧e'.Good∧e'.id=id):=by
 have fin:∀ (e:Ent) (hg:e.Good) (he:e.id=id) (ks ls:List (List AV)) (h1:ks=e.ks.map e8) (h2:ls=e.ls.map Val.row) (o1 o2:Bool) (w0 w3 w5 w6 w7 w8 w9 w10 w11 w12 w13 w14 w15 w16:AV),WC (fun k=>i6 (k7 tbl k) k a25s120 [w0,.box [.int .u8 t,.int .u8 d,.int .i32 n,.str s,.list own refs,.int .u8 lack],.box [.str [],.str [],.list true [],.list true []],w3,.box [.str e.t,.str id,.list o1 ks,.list o2 ls],w5,w6,w7,w8,w9,w10,w11,w12,w13,w14,w15,w16] st)
  (fun o=>∃ r st',Go.Cb.finK [.bx 2 true 4] (some o)=some (r,st')∧st'=st∧∃ e':Ent,r=.agg e'.row∧e'.Good∧e'.id=id):=by
  intro e hg he ks ls h1 h2 o1 o2 w0 w3 w5 w6 w7 w8 w9 w10 w11 w12 w13 w14 w15 w16
  subst h1; subst h2; subst he
  exact (c0w e hg o1 o2 w0 w3 w5 w6 w7 w8 w9 w10 w11 w12 w13 w14 w15 w16 st).mono fun o ⟨r,st',h1,h2,e',h3,h4,h5,_⟩=>⟨r,st',h1,h2,e',h3,h4,h5⟩
 have person:∀ (md:List Nat) (hmd:md.length≤TB) (v9 v11 v12 v13 v14 v15 v16:AV) (b7 b8:Bool),WC (fun k=>i6 (k7 tbl k) k a25s120 [v0,.box [.int .u8 t,.int .u8 d,.int .i32 n,.str s,.list own refs,.int .u8 lack],.box [.str [],.str [],.list true [],.list true []],v3,.box [.str [80,101,114,115,111,110],.str id,.list true [[.str [97,103,101]],[.str [102,114,105,101,110,100,115]],[.str [109,111,111,100]],[.str [110,97,109,101]],[.str [112,101,116]],[.str [116,97,103,115]]],.list true [[.int .u8 1,.int .i64 nm,.str [],.list false [],.list false []],[.int .u8 5,.int .i64 0,.str [],.list false [],.list false (Ls.map Val.row)],[.int .u8 4,.int .i64 0,.str md,.list false [],.list false []],[.int .u8 tk,.int .i64 tn,.str ts,.list false [],.list false []],[.int .u8 ok,.int .i64 0,.str os,.list false [],.list false []],[.int .u8 5,.int .i64 0,.str [],.list false [],.list false [[.int .u8 tk,.int .i64 tn,.str ts,.list false [],.list false []],[.int .u8 0,.int .i64 0,.str [],.list false [],.list false []]]]]],
  .box [.int .u8 tk,.int .i64 tn,.str ts,.list b1 [],.list b2 []],.box [.int .u8 1,.int .i64 nm,.str [],.list true [],.list true []],.box [.int .u8 5,.int .i64 0,.str [],.list b3 [],.list b4 (Ls.map Val.row)],.box [.int .u8 ok,.int .i64 0,.str os,.list b5 [],.list b6 []],v9,.box [.int .u8 4,.int .i64 0,.str md,.list b7 [],.list b8 []],v11,v12,v13,v14,v15,v16] st)
  (fun o=>∃ r st',Go.Cb.finK [.bx 2 true 4] (some o)=some (r,st')∧st'=st∧∃ e':Ent,r=.agg e'.row∧e'.Good∧e'.id=id):=fun md hmd v9 v11 v12 v13 v14 v15 v16 b7 b8=>by
  refine fin ⟨[80,101,114,115,111,110],id,personK,a4l nm Ls md tk tn ts ok os⟩ (b3o htk hok hmd hL) rfl _ _ rfl ?_ true true v0 v3 _ _ _ _ _ _ _ _ _ _ _ _
  simp only [a4l,AG,AL,Val.rowL]
 simp (maxSteps:=1000000) (contextual:=true) (implicitDefEqProofs:=false) only [Q1,SS,rA,rS,rL,rE,reduceCtorEq,a25s121.eq_1,Nat.reduceLT,z4,if_false,if_true]
 rcases e9 (eqI (t.tmod 4) 0) with h0|h0
 · simp (maxSteps:=1000000) (contextual:=true) (implicitDefEqProofs:=false) only [Q1,SS,rA,rS,rL,rE,reduceCtorEq,h0,Nat.reduceLT,z7,if_false,if_true]
   refine WC.br (fun h7=>?_) (fun h7=>?_)
   · simp (maxSteps:=1000000) (contextual:=true) (implicitDefEqProofs:=false) only [Q1,SS,rA,rS,rL,rE,reduceCtorEq,h7,Nat.reduceLT,z7,if_false,if_true]
     exact person _ (by decide) _ _ _ _ _ _ _ _ _
   · simp (maxSteps:=1000000) (contextual:=true) (implicitDefEqProofs:=false) only [Q1,SS,rA,rS,rL,rE,reduceCtorEq,h7,Nat.reduceLT,z7,if_false,if_true]
     exact person _ (by decide) _ _ _ _ _ _ _ _ _
 rcases e9 (eqI (t.tmod 4) 1) with h1|h1
 · simp (maxSteps:=1000000) (contextual:=true) (implicitDefEqProofs:=false) only [Q1,SS,rA,rS,rL,rE,reduceCtorEq,h0,h1,Nat.reduceLT,z7,if_false,if_true]
   refine WC.br (fun h7=>?_) (fun h7=>?_)
   · simp (maxSteps:=1000000) (contextual:=true) (implicitDefEqProofs:=false) only [Q1,SS,rA,rS,rL,rE,reduceCtorEq,h7,Nat.reduceLT,z7,if_false,if_true]
     exact person _ (by decide) _ _ _ _ _ _ _ _ _
   · simp (maxSteps:=1000000) (contextual:=true) (implicitDefEqProofs:=false) only [Q1,SS,rA,rS,rL,rE,reduceCtorEq,h7,Nat.reduceLT,z7,if_false,if_true]
     exact person _ (by decide) _ _ _ _ _ _ _ _ _
 rcases e9 (eqI (t.tmod 4) 2) with h2|h2
 · simp (maxSteps:=1000000) (contextual:=true) (implicitDefEqProofs:=false) only [Q1,SS,rA,rS,rL,rE,reduceCtorEq,h0,h1,h2,Nat.reduceLT,z7,if_false,if_true]
   refine fin ⟨[67,97,116],id,catK,[.mk 1 nm [] [] [],.mk tk tn ts [] [],.mk ok 0 os [] []]⟩ ⟨rfl,show catK.length≤6 by decide,fun v hv=>?_⟩ rfl _ _ rfl ?_ true true _ _ _ _ _ _ _ _ _ _ _ _ _ _
   · simp only [List.mem_cons,List.not_mem_nil,or_false] at hv
     rcases hv with rfl|rfl|rfl
     · exact a0c ⟨by decide,by decide⟩
     · exact a0c htk
     · exact a0c hok
   · simp only [AG,AL,Val.rowL]
 · simp (maxSteps:=1000000) (contextual:=true) (implicitDefEqProofs:=false) only [Q1,SS,rA,rS,rL,rE,reduceCtorEq,h0,h1,h2,Nat.reduceLT,z2,z7,if_false,if_true]
   refine fin ⟨[68,111,103],id,dogK,[.mk 3 (m5 .i64 (lack.tmod 2)) [] [] []]⟩ ⟨rfl,show dogK.length≤6 by decide,fun v hv=>?_⟩ rfl _ _ rfl ?_ true true _ _ _ _ _ _ _ _ _ _ _ _ _ _
   · simp only [List.mem_cons,List.not_mem_nil,or_false] at hv
     rw [hv]
     exact a0c ⟨by decide,by decide⟩
   · simp only [AG,AL,Val.rowL]
theorem b4n (d:Int):(idS d).length≤TB:=by
 have h:∀ i,(idsL.getD i []).length≤2:=fun i=>by
  rcases Nat.lt_or_ge i 8 with h|h
  · rcases i with _|_|_|_|_|_|_|_|i <;> first|decide|omega
  · rw [List.getD_eq_getElem?_getD,List.getElem?_eq_none (show idsL.length≤i from h)]; decide
 exact Nat.le_trans (h _) (by decide)
theorem b9V {x:Thg} (hx:x.OK) (st:St):EvQ tbl 25 [.agg x.row] st (fun a st'=>st'=st∧∃ e:Ent,a=.agg e.row∧e.Good∧e.id=idS x.d):=by
 obtain ⟨t,d,n,s,refs,lack⟩:=x
 obtain ⟨hd,hr,hn,hts⟩:=hx
 dsimp only at hd hr hn hts
 have hid:=b6w hd
 have hd0:0≤d.tmod 8:=Int.tmod_nonneg 8 hd
 unfold Thg.row
 refine EvQ.body (fn:=a25) rfl rfl rfl ?_
 simp (maxSteps:=1000000) (contextual:=true) (implicitDefEqProofs:=false) only [Q1,SS,rA,rS,rL,rE,reduceCtorEq,Nat.reduceLT,z8,if_false,hid,hd0,if_true,AF,a2n hn.1 hn.2]
 refine WC.loopR (fun mm fr st'=>st'=st∧∃ (i:Nat) (Ls:List Val) (ok:Int) (os:List Nat) (b3 b4 b5 b6:Bool),i≤6∧mm=6 - i∧Ls.length≤i∧(∀ u∈Ls,∃ k n s,u=.mk k n s [] []∧k≠6∧s.length≤TB)∧(ok≠6∧os.length≤TB)∧fr=[.agg [.int .u8 t,.int .u8 d,.int .i32 n,.str s,.list false (refs.map a0L),.int .u8 lack],.box [.int .u8 t,.int .u8 d,.int .i32 n,.str s,.list false (refs.map a0L),.int .u8 lack],.box [.str [],.str [],.list true [],.list true []],.list true [[.str [97]],[.str [98]],[.str [99]],[.str [100]],[.str [101]],[.str [49,48]],[.str [57]],[.str []]],.box [.str [],.str (idS d),.list true [],.list true []],
  .box [.int .u8 2,.int .i64 0,.str s,.list true [],.list true []],.box [.int .u8 1,.int .i64 n,.str [],.list true [],.list true []],.box [.int .u8 5,.int .i64 0,.str [],.list b3 [],.list true (Ls.map Val.row)],.box [.int .u8 ok,.int .i64 0,.str os,.list b5 [],.list b6 []],.int .i64 i,.undef,.undef,.undef,.undef,.undef,.undef,.undef]) (m:=6) ⟨rfl,0,[],_,_,_,true,_,_,by decide,rfl,by simp,by simp,⟨by decide,by decide⟩,rfl⟩ ?_
 rintro mm fr st' ⟨rfl,i,Ls,ok,os,b3,b4,b5,b6,hi,rfl,hLi,hLs,hok,rfl⟩
 simp +contextual -implicitDefEqProofs only [Q1,SS,rA,rS,rL,rE,reduceCtorEq,AF,ltN]
 rcases e9 (decide (i < refs.length) && ltI (i:Int) 6) with hc|hc
 · have hil:i < refs.length:=by
    rw [AA] at hc
    exact of_decide_eq_true hc.1
   have hi6:i < 6:=by
    rw [AA,ltI_eq] at hc
    have:=of_decide_eq_true hc.2
    omega
   have e1:(refs.map a0L)[i]?=some [.int .u8 refs[i]]:=by rw [AQ,AD hil]; rfl
   have hr0:=hr _ (List.getElem_mem hil)
   revert e1 hr0
   generalize refs[i]=r
   intro e1 hr0
   have hr1:=b6w hr0
   have hr2:0≤r.tmod 8:=Int.tmod_nonneg 8 hr0
   simp (maxSteps:=1000000) (contextual:=true) (implicitDefEqProofs:=false) only [Q1,SS,rA,rS,rL,rE,reduceCtorEq,hc,e1,hr1,hr2,z8,if_false,if_true,a0U,AF,s9 (show i+1 < 2 ^ 63 by omega),show (Ls.length+1)*80≤2 ^ 47 by omega]
   refine WC.next (m':=6 - (i+1)) (by omega) ⟨rfl,i+1,Ls++[.mk 8 0 (idS r) [] []],8,_,_,true,_,_,by omega,rfl,by simp; omega,fun u hu=>?_,⟨by decide,b4n r⟩,by rw [AU,AG,AL,Val.row0]⟩
   rcases AP.1 hu with hu|hu
   · exact hLs u hu
   · exact ⟨_,_,_,List.mem_singleton.1 hu,by decide,b4n r⟩
 · simp (maxSteps:=1000000) (contextual:=true) (implicitDefEqProofs:=false) only [Q1,SS,rA,rS,rL,rE,reduceCtorEq,hc]
   refine WC.leave ?_
   simp (maxSteps:=1000000) (contextual:=true) (implicitDefEqProofs:=false) only [Q1,SS,rA,rS,rL,rE,reduceCtorEq,z16,if_false]
   have hL6:Ls.length≤6∧∀ u∈Ls,∃ k n s,u=Val.mk k n s [] []∧k≠6∧s.length≤TB:=⟨by omega,hLs⟩
   refine WC.br (fun h7=>?_) (fun h7=>?_)
   · simp (maxSteps:=1000000) (contextual:=true) (implicitDefEqProofs:=false) only [Q1,SS,rA,rS,rL,rE,reduceCtorEq]
     exact b4V (idS d) 1 n n ok [] os Ls ⟨by decide,by decide⟩ hok hL6 _ _ _ _ _ _ _ _ _ _
   · simp (maxSteps:=1000000) (contextual:=true) (implicitDefEqProofs:=false) only [Q1,SS,rA,rS,rL,rE,reduceCtorEq]
     exact b4V (idS d) 2 0 n ok s os Ls ⟨by decide,hts⟩ hok hL6 _ _ _ _ _ _ _ _ _ _
end Go.Cb.CodeA
set_option maxRecDepth 20000
set_option linter.unusedSimpArgs false
set_option linter.unusedVariables false
namespace Go.Cb.CodeA
open Go Go.Cb
open Nat renaming reduceAdd→rA,reduceSub→rS,reduceLeDiff→rL,reduceEqDiff→rE
attribute [local congr] i7 j1 j2 j3 j0 i8 k6 j9 V.runR_congr
theorem b4y (a b:List Nat):eqN a b=true ↔ a=b:=by rw [a2p]; simp
theorem Z2 (a:List Nat):eqN a a=true:=(b4y a a).2 rfl
theorem b2O:∀ a b:List Nat,m3 a b=false→m3 b a=false→a=b
 | [],[],_,_=>rfl
 | [],b::y,h,_=>by simp [m3] at h
 | a::x,[],_,h=>by simp [m3] at h
 | a::x,b::y,h1,h2=>by
  simp only [m3,Bool.or_eq_false_iff,Bool.and_eq_false_iff,Nat.blt_eq,Bool.not_eq_true] at h1 h2
  obtain ⟨h1,h3⟩:=h1
  obtain ⟨h2,h4⟩:=h2
  have e1:¬ a < b:=fun h=>by
   have:Nat.blt a b=true:=by simpa [Nat.blt_eq] using h
   rw [this] at h1; cases h1
  have e2:¬ b < a:=fun h=>by
   have:Nat.blt b a=true:=by simpa [Nat.blt_eq] using h
   rw [this] at h2; cases h2
  obtain rfl:a=b:=by omega
  have hb:Nat.beq a a=true:=by simp
  rw [hb] at h3 h4
  rcases h3 with h3|h3
  · cases h3
  rcases h4 with h4|h4
  · cases h4
  rw [b2O x y h3 h4]
theorem a0F:∀ a b c:List Nat,m3 a b=true→m3 b c=true→m3 a c=true
 | _,[],_,h,_=>by simp [m3] at h
 | _,_::_,[],_,h=>by simp [m3] at h
 | [],_::_,_::_,_,_=>rfl
 | a::x,b::y,c::z,h1,h2=>by
  simp only [m3,Bool.or_eq_true,AA,Nat.blt_eq,Nat.beq_eq] at h1 h2 ⊢
  rcases h1 with h1|⟨h1,h3⟩
  · rcases h2 with h2|⟨h2,_⟩
    · left; omega
    · left; omega
  · rcases h2 with h2|⟨h2,h4⟩
    · left; omega
    · right; exact ⟨by omega,a0F x y z h3 h4⟩
def k9 (es:List Ent):List AV:=es.flatMap Ent.row
theorem a1T (es:List Ent):∀ i,(k9 es).drop (i*4)=k9 (es.drop i):=by
 induction es with
 | nil=>intro i; simp [k9]
 | cons e es ih =>
  intro i
  cases i with
  | zero=>rw [Nat.zero_mul,List.drop_zero,List.drop_zero]
  | succ i =>
   rw [List.drop_succ_cons,← ih i,show (i+1)*4=i*4+4 by omega,← List.drop_drop,show k9 (e::es)=e.row++k9 es from rfl]
   rw [List.drop_drop,show i*4+4=4+i*4 by omega,← List.drop_drop]
   rfl
theorem a0z (es:List Ent):(k9 es).length=es.length*4:=by
 induction es with
 | nil=>rfl
 | cons e es ih=>rw [show k9 (e::es)=e.row++k9 es from rfl,List.length_append,ih,List.length_cons]; simp [Ent.row]; omega
theorem a6Z (a b:List Ent):k9 (a++b)=k9 a++k9 b:=by simp [k9]
theorem a9G {es:List Ent} {i:Nat} (h:i < es.length):j7 true 4 ((k9 es).drop (i*4))=some (.agg es[i].row):=by
 rw [a1T,List.drop_eq_getElem_cons h]
 rfl
def EntsAt (v:AV) (es:List Ent) (st:St):Prop:=(v=.nils∧es=[])∨∃ o,v=.sl o 0 es.length 4∧st[o]?=some (.cells (k9 es))
theorem b96 (l:List Thg) (h:∀ x∈l,x.OK) (st:St):EvQ tbl 15 [.list false (l.map Thg.row)] st (fun a st'=>st'=st∧∃ es:List Ent,a=.list false (es.map Ent.row)∧es.length≤12∧∀ e∈es,e.Good):=by
 refine EvQ.body (fn:=a15) rfl rfl rfl ?_
 simp +contextual -implicitDefEqProofs only [K15,SS,rA,rS,rL,rE,reduceCtorEq]
 refine WC.loopR (fun mm fr st'=>st'=st∧∃ (i:Nat) (es:List Ent),i≤12∧mm=12 - i∧es.length≤i∧(∀ e∈es,e.Good)∧fr=[.list false (l.map Thg.row),.list true [],.list true (es.map Ent.row),.int .i64 i]) (m:=12) ⟨rfl,0,[],by decide,rfl,by simp,by simp,rfl⟩ ?_
 rintro mm fr st' ⟨rfl,i,es,hi,rfl,hle,hg,rfl⟩
 simp +contextual -implicitDefEqProofs only [K15,SS,rA,rS,rL,rE,reduceCtorEq,AF,ltN]
 rcases e9 (decide (i < l.length) && ltI (i:Int) 12) with hc|hc
 · have hil:i < l.length:=by
    rw [AA] at hc
    exact of_decide_eq_true hc.1
   have hi6:i < 12:=by
    rw [AA,ltI_eq] at hc
    have:=of_decide_eq_true hc.2
    omega
   have e1:(l.map Thg.row)[i]?=some l[i].row:=by rw [AQ,AD hil]; rfl
   have hx:=h _ (List.getElem_mem hil)
   revert e1 hx
   generalize l[i]=x
   intro e1 hx
   have hq:=b9V hx st'
   have ex:x.row=[.int .u8 x.t,.int .u8 x.d,.int .i32 x.n,.str x.s,.list false (x.refs.map a0L),.int .u8 x.lack]:=rfl
   rw [ex] at e1 hq
   simp +contextual -implicitDefEqProofs only [K15,SS,rA,rS,rL,rE,reduceCtorEq,hc,e1]
   refine WC.call hq rfl rfl ?_
   rintro _ _ ⟨rfl,e,rfl,he,_⟩
   have hro:l3 4 (es.map Ent.row)=true:=U9 fun r hr=>by
    obtain ⟨v,_,rfl⟩:=List.mem_map.1 hr
    rfl
   have ee:e.row=[.str e.t,.str e.id,.list false (e.ks.map e8),.list false (e.ls.map Val.row)]:=rfl
   rw [ee]
   simp +contextual -implicitDefEqProofs only [K15,SS,rA,rS,rL,rE,reduceCtorEq,hro,AF,s9 (show i+1 < 2 ^ 63 by omega),show (es.length+1)*80≤2 ^ 47 by omega]
   refine WC.next (m':=12 - (i+1)) (by omega) ⟨rfl,i+1,es++[e],by omega,rfl,by simp; omega,fun u hu=>?_,by rw [AU]; rfl⟩
   rcases AP.1 hu with hu|hu
   · exact hg u hu
   · rw [List.mem_singleton.1 hu]; exact he
 · simp +contextual -implicitDefEqProofs only [K15,SS,rA,rS,rL,rE,reduceCtorEq,hc]
   refine WC.leave ?_
   simp +contextual -implicitDefEqProofs only [K15,SS,rA,rS,rL,rE,reduceCtorEq]
   exact WC.ret ⟨_,_,rfl,rfl,es,rfl,by omega,hg⟩
end Go.Cb.CodeA
set_option maxRecDepth 20000
set_option linter.unusedSimpArgs false
set_option linter.unusedVariables false
namespace Go.Cb.CodeA
open Go Go.Cb
open Nat renaming reduceAdd→rA,reduceSub→rS,reduceLeDiff→rL,reduceEqDiff→rE
attribute [local congr] i7 j1 j2 j3 j0 i8 k6 j9 V.runR_congr
theorem c7a (a b:List Nat):l8 .gtr (.str a) (.str b)=some (.bool !(m3 a b || eqN a b)):=b9 rfl
theorem Ent.row_w (e:Ent):List.map AV.weak1 e.row=e.row:=rfl
def a5J (a b:List Nat):Int:=if m3 a b then -1 else if eqN a b then 0 else 1
theorem c1R (e:Ent) (id:List Nat) (st:St):EvQ tbl 93 [.agg e.row,.str id] st (fun a st'=>st'=st∧a=.int .i64 (a5J e.id id)):=by
 have ee:e.row=[.str e.t,.str e.id,.list false (e.ks.map e8),.list false (e.ls.map Val.row)]:=rfl
 rw [ee]
 refine EvQ.body (fn:=a93) rfl rfl rfl ?_
 simp +contextual -implicitDefEqProofs only [K93,SS,rA,rS,rL,rE,reduceCtorEq]
 rcases e9 (m3 e.id id) with h|h
 · simp +contextual -implicitDefEqProofs only [K93,SS,rA,rS,rL,rE,reduceCtorEq,h]
   exact WC.ret ⟨_,_,rfl,rfl,by rw [a5J,if_pos h]; rfl⟩
 rcases e9 (eqN e.id id) with h2|h2
 · simp +contextual -implicitDefEqProofs only [K93,SS,rA,rS,rL,rE,reduceCtorEq,h,h2,c7a,Bool.false_or,Bool.not_true,Bool.not_false]
   exact WC.ret ⟨_,_,rfl,rfl,by rw [a5J,h,if_neg (by decide),if_pos h2]; rfl⟩
 · simp +contextual -implicitDefEqProofs only [K93,SS,rA,rS,rL,rE,reduceCtorEq,h,h2,c7a,Bool.false_or,Bool.not_true,Bool.not_false]
   exact WC.ret ⟨_,_,rfl,rfl,by rw [a5J,h,if_neg (by decide),h2,if_neg (by decide)]; rfl⟩
abbrev K6 (es:List Ent):Prop:=es.Pairwise fun a b=>m3 a.id b.id=true
def C5 (id:List Nat):List Ent→Nat
 | []=>0
 | e::es=>if m3 e.id id then C5 id es+1 else 0
def O1 (id:List Nat) (es:List Ent):Bool:=match es[C5 id es]? with
 | some e=>eqN e.id id
 | none=>false
theorem b4M (id:List Nat):∀ es:List Ent,C5 id es≤es.length
 | []=>AJ _
 | e::es=>by
  rw [C5]
  split
  · have:=b4M id es; rw [AX]; omega
  · omega
theorem b3L (id:List Nat):∀ (es:List Ent) (i:Nat),i≤es.length→(∀ k (h:k < es.length),k < i→m3 es[k].id id=true)→(∀ h:i < es.length,m3 es[i].id id=false)→C5 id es=i
 | [],i,h,_,_=>by simp at h; subst h; rfl
 | e::es,0,_,_,h2=>by rw [C5,show m3 e.id id=false from h2 (by simp)]; rfl
 | e::es,i+1,h,h1,h2=>by
  have h0:m3 e.id id=true:=h1 0 (by simp) (by omega)
  rw [C5,if_pos h0]
  rw [b3L id es i (by simpa using h) (fun k hk hki=>h1 (k+1) (by simpa using hk) (by omega)) (fun hi=>h2 (by simpa using hi))]
theorem a6b {es:List Ent} {o:Nat} {st:St} (h:st[o]?=some (.cells (k9 es))) {i:Nat} (hi:i < es.length) (call:d8) (bx:AV):C1 true 4 call [.ptr o (i*4)] bx st=some (.agg es[i].row,bx,st):=by
 rw [R.ldAn_ptr,h]
 dsimp only
 rw [a9G hi]
 rfl
theorem d2P {i j:Nat} (h:i+j < 2 ^ 62):m5 .i64 (Int.fdiv (m5 .u64 (m5 .i64 (a0v (i:Int) (j:Int)))) 2)=(((i+j) / 2:Nat):Int):=by
 have e1:m5 .i64 ((i:Int)+(j:Int))=(i:Int)+(j:Int):=a2n (by omega) (by omega)
 rw [addI_eq,e1]
 have:m5 .u64 ((i:Int)+(j:Int))=(i:Int)+(j:Int):=by
  rw [C6]
  simp only [IntKind.wrap,IntKind.signed,IntKind.bits,Bool.false_and,Bool.false_eq_true,if_false]
  omega
 rw [this]
 have e:Int.fdiv ((i:Int)+(j:Int)) 2=(((i+j) / 2:Nat):Int):=by
  rw [Int.fdiv_eq_ediv_of_nonneg _ (by omega)]
  omega
 rw [e,a2n (by omega) (by omega)]
theorem d5j (a:Int):l8 .shr (.int .u64 a) (.int .u64 1)=some (.int .u64 (Int.fdiv a 2)):=by
 have:(2:Int) ^ (min (1:Int).toNat IntKind.u64.bits)=2:=by decide
 simp only [l8]
 rw [this]
 rfl
theorem c0z {es:List Ent} {v:AV} {st:St} (h:EntsAt v es st) (hs:K6 es) (hl:es.length≤100000) (id:List Nat):EvQ tbl 92 [v,.str id,.func 93 [] []] st (fun a st'=>st'=st∧a=.tuple [.int .i64 (C5 id es),.bool (O1 id es)]):=by
 rcases h with ⟨rfl,rfl⟩|⟨o,rfl,ho⟩
 · refine EvQ.body (fn:=a92) rfl rfl rfl ?_
   simp +contextual -implicitDefEqProofs only [K92,SS,rA,rS,rL,rE,reduceCtorEq]
   refine WC.loopR (fun mm fr st'=>st'=st∧fr=[.nils,.str id,.func 93 [] [],.int .i64 0,.bool false,.int .i64 0,.int .i64 0,.int .i64 0,.undef]) (m:=0) ⟨rfl,rfl⟩ ?_
   rintro mm fr st' ⟨rfl,rfl⟩
   simp +contextual -implicitDefEqProofs only [K92,SS,rA,rS,rL,rE,reduceCtorEq,show ltI 0 0=false from rfl]
   refine WC.leave ?_
   simp +contextual -implicitDefEqProofs only [K92,SS,rA,rS,rL,rE,reduceCtorEq,show ltI 0 0=false from rfl]
   exact WC.ret ⟨_,_,rfl,rfl,rfl⟩
 · refine EvQ.body (fn:=a92) rfl rfl rfl ?_
   simp +contextual -implicitDefEqProofs only [K92,SS,rA,rS,rL,rE,reduceCtorEq]
   refine WC.loopR (fun mm fr st'=>st'=st∧∃ (i j:Nat) (v8:AV),i≤j∧j≤es.length∧mm=j - i∧(∀ k (h:k < es.length),k < i→m3 es[k].id id=true)∧(∀ k (h:k < es.length),j≤k→m3 es[k].id id=false)∧fr=[.sl o 0 es.length 4,.str id,.func 93 [] [],.int .i64 0,.bool false,.int .i64 es.length,.int .i64 i,.int .i64 j,v8]) (m:=es.length) ⟨rfl,0,es.length,_,Nat.zero_le _,AJ _,by omega,fun k _ hk=>absurd hk (Nat.not_lt_zero _),fun k h1 h2=>by omega,rfl⟩ ?_
   rintro mm fr st' ⟨rfl,i,j,v8,hij,hj,rfl,h1,h2,rfl⟩
   simp +contextual -implicitDefEqProofs only [K92,SS,rA,rS,rL,rE,reduceCtorEq,ltN]
   by_cases hlt:i < j
   · have hm:(i+j) / 2 < es.length:=by omega
     have hlo:i≤(i+j) / 2:=by omega
     have hhi:(i+j) / 2 < j:=by omega
     have hmid:=d2P (i:=i) (j:=j) (by omega)
     have hld:=fun call bx=>a6b ho hm call bx
     have hcq:=c1R (es[(i+j) / 2]) id st'
     have hlow:m3 es[(i+j) / 2].id id=true→∀ k (h:k < es.length),k < (i+j) / 2+1→m3 es[k].id id=true:=fun hh k hk hki=>by
      by_cases e:k=(i+j) / 2
      · subst e; exact hh
      · exact a0F _ _ _ (List.pairwise_iff_getElem.1 hs k ((i+j) / 2) hk hm (by omega)) hh
     have hhigh:m3 es[(i+j) / 2].id id=false→∀ k (h:k < es.length),(i+j) / 2≤k→m3 es[k].id id=false:=fun hh k hk hki=>by
      by_cases e:k=(i+j) / 2
      · subst e; exact hh
      · rcases e9 (m3 es[k].id id) with h3|h3
        · have:=a0F _ _ _ (List.pairwise_iff_getElem.1 hs ((i+j) / 2) k hm hk (by omega)) h3
          rw [hh] at this; cases this
        · exact h3
     revert hld hcq hlow hhigh hmid
     generalize hmm:(i+j) / 2=m at *
     generalize es[m]=e
     intro hmid hld hcq hlow hhigh
     have hml:((m:Int) < (es.length:Int))=True:=by simp; omega
     simp +contextual -implicitDefEqProofs only [K92,SS,rA,rS,rL,rE,reduceCtorEq,hlt,ltN,d5j,hmid,hml,if_true,hld,Ent.row_w]
     refine WC.callV hcq rfl rfl ?_
     rintro _ _ ⟨rfl,rfl⟩
     unfold a5J
     rcases e9 (m3 e.id id) with hq|hq
     · simp +contextual -implicitDefEqProofs only [K92,SS,rA,rS,rL,rE,reduceCtorEq,hq,if_true,show ltI (-1) 0=true from rfl,s9 (show m+1 < 2 ^ 63 by omega)]
       exact WC.next (m':=j - (m+1)) (by omega) ⟨rfl,m+1,j,_,by omega,hj,rfl,hlow hq,h2,rfl⟩
     · have:ltI (if eqN e.id id=true then 0 else 1) 0=false:=by split <;> rfl
       simp +contextual -implicitDefEqProofs only [K92,SS,rA,rS,rL,rE,reduceCtorEq,hq,if_false,this,Bool.false_eq_true]
       exact WC.next (m':=m - i) (by omega) ⟨rfl,i,m,_,by omega,by omega,rfl,h1,hhigh hq,rfl⟩
   · simp +contextual -implicitDefEqProofs only [K92,SS,rA,rS,rL,rE,reduceCtorEq,hlt,ltN]
     refine WC.leave ?_
     obtain rfl:i=j:=by omega
     have hpe:C5 id es=i:=b3L id es i hj h1 (fun h=>h2 i h (AJ _))
     by_cases hil:i < es.length
     · have hld:=fun call bx=>a6b ho hil call bx
       have hcq:=c1R (es[i]) id st'
       have hle:=h2 i hil (AJ _)
       have hhe:O1 id es=eqN es[i].id id:=by rw [O1,hpe,AD hil]
       have hml:((i:Int) < (es.length:Int))=True:=by simp; omega
       rw [hpe,hhe]
       revert hld hcq hle
       generalize es[i]=e
       intro hld hcq hle
       simp +contextual -implicitDefEqProofs only [K92,SS,rA,rS,rL,rE,reduceCtorEq,hil,ltN,hml,if_true,hld,Ent.row_w]
       refine WC.callV hcq rfl rfl ?_
       rintro _ _ ⟨rfl,rfl⟩
       simp +contextual -implicitDefEqProofs only [K92,SS,rA,rS,rL,rE,reduceCtorEq]
       refine WC.ret ⟨_,_,rfl,rfl,?_⟩
       have:eqI (a5J e.id id) 0=eqN e.id id:=by
        unfold a5J
        rw [hle,if_neg (by decide)]
        cases eqN e.id id <;> rfl
       rw [this]
       rfl
     · have hhe:O1 id es=false:=by rw [O1,hpe,List.getElem?_eq_none (by omega)]
       rw [hpe,hhe]
       simp +contextual -implicitDefEqProofs only [K92,SS,rA,rS,rL,rE,reduceCtorEq,hil,ltN]
       exact WC.ret ⟨_,_,rfl,rfl,rfl⟩
end Go.Cb.CodeA
set_option maxRecDepth 20000
set_option linter.unusedSimpArgs false
set_option linter.unusedVariables false
namespace Go.Cb.CodeA
open Go Go.Cb
open Nat renaming reduceAdd→rA,reduceSub→rS,reduceLeDiff→rL,reduceEqDiff→rE
attribute [local congr] i7 j1 j2 j3 j0 i8 k6 j9 V.runR_congr
theorem a5T (es:List Ent):(k9 es).map AV.weak1=k9 es:=by
 induction es with
 | nil=>rfl
 | cons e es ih=>rw [show k9 (e::es)=e.row++k9 es from rfl,AU,ih]; rfl
theorem EntsAt.gr {v:AV} {es:List Ent} {st st':St} (h:EntsAt v es st) (hg:Gr st st'):EntsAt v es st':=by
 rcases h with h|⟨o,h1,h2⟩
 · exact .inl h
 · exact .inr ⟨o,h1,hg o _ h2⟩
theorem EntsAt.wk {v:AV} {es:List Ent} {st:St} (h:EntsAt v es st):v.weak=v∧v.weak1=v∧v.strip=v∧v.stripB=v∧v.plain=true∧v.cells=[v]∧v.cellsW=[v]:=by
 rcases h with ⟨rfl,_⟩|⟨o,rfl,_⟩ <;> exact ⟨rfl,rfl,rfl,rfl,rfl,rfl,rfl⟩
theorem b81 (st:St):EvQ tbl 47 [.nils] st (fun a st'=>a=.nils∧st'=st):=EvQ.of_ext (fn:=a47) rfl rfl (r:=(.nils,st)) rfl ⟨rfl,rfl⟩
theorem c0M {es:List Ent} {o:Nat} {st:St} (h:st[o]?=some (.cells (k9 es))) (hl:es.length≤100000):EvQ tbl 47 [.sl o 0 es.length 4] st (fun a st'=>a=.sl st.length 0 es.length 4∧st'=st++[.cells (k9 es)]):=by
 refine EvQ.of_ext (fn:=a47) (e:=a0P 4 80) (r:=(.sl st.length 0 es.length 4,st++[.cells (k9 es)])) rfl rfl ?_ ⟨rfl,rfl⟩
 unfold a0P
 dsimp only
 rw [h]
 dsimp only
 rw [if_pos ⟨rfl,by rw [a0z]; omega,by omega⟩,List.drop_zero,← a0z,List.take_length,a5T]
theorem c0K (x:Ent) (st:St):EvQ tbl 88 [.nils,.int .i64 0,.list false [x.row]] st (fun a st'=>a=.sl st.length 0 1 4∧st'=st++[.cells (k9 [x])]) :=
 EvQ.of_ext (fn:=a88) (e:=U3 4 80) (r:=(.sl st.length 0 1 4,st++[.cells (k9 [x])])) rfl rfl (by unfold U3; dsimp only; rw [if_pos ⟨rfl,rfl⟩]; rfl) ⟨rfl,rfl⟩
theorem a5m (es:List Ent):∀ i,(k9 es).take (i*4)=k9 (es.take i):=by
 induction es with
 | nil=>intro i; simp [k9]
 | cons e es ih =>
  intro i
  cases i with
  | zero=>rw [Nat.zero_mul,List.take_zero,List.take_zero]; rfl
  | succ i =>
   rw [List.take_succ_cons,show k9 (e::es)=e.row++k9 es from rfl,show k9 (e::es.take i)=e.row++k9 (es.take i) from rfl,← ih i,show (i+1)*4=i*4+4 by omega]
   rfl
theorem c5u {es:List Ent} {o:Nat} {st:St} (x:Ent) (h:st[o]?=some (.cells (k9 es))) (hl:es.length≤100000) {i:Nat} (hi:i≤es.length):EvQ tbl 88 [.sl o 0 es.length 4,.int .i64 i,.list false [x.row]] st (fun a st'=>a=.sl st.length 0 (es.length+1) 4∧st'=st.set o .dead++[.cells (k9 (es.take i++x::es.drop i))]):=by
 refine EvQ.of_ext (fn:=a88) (e:=U3 4 80) (r:=(.sl st.length 0 (es.length+1) 4,st.set o .dead++[.cells (k9 (es.take i++x::es.drop i))])) rfl rfl ?_ ⟨rfl,rfl⟩
 simp only [U3,h]
 rw [if_pos ⟨trivial,by omega,by omega,a0z es,rfl,by omega⟩,Int.toNat_natCast,M2,a5m,a1T,a6Z]
 rw [show k9 (x::es.drop i)=x.row++k9 (es.drop i) from rfl,AU,AU,a5T,a5T,AW]
 rfl
theorem b24 {es:List Ent} {v:AV} {st:St} (h:EntsAt v es st) (hs:K6 es) (hl:es.length≤100000) (id:List Nat):EvQ tbl 48 [.agg [v],.str id] st (fun a st'=>st'=st∧a=.tuple [.int .i64 (C5 id es),.bool (O1 id es)]):=by
 obtain ⟨w1,w2,w3,w4,w5,w6,w7⟩:=h.wk
 refine EvQ.body (fn:=a48) rfl rfl rfl ?_
 simp +contextual -implicitDefEqProofs only [K48,SS,rA,rS,rL,rE,reduceCtorEq,w1,w2,w3,w4,w5,w6,w7]
 refine WC.call (c0z h hs hl id) (by simp only [q7,w5]; rfl) (by simp only [AG,AL,w1]; rfl) ?_
 rintro _ _ ⟨rfl,rfl⟩
 simp +contextual -implicitDefEqProofs only [K48,SS,rA,rS,rL,rE,reduceCtorEq]
 exact WC.ret ⟨_,_,rfl,rfl,rfl⟩
def L4 (es:List Ent) (x:Ent):List Ent:=if O1 x.id es then es.set (C5 x.id es) x else es.take (C5 x.id es)++x::es.drop (C5 x.id es)
theorem b43 {id:List Nat} {es:List Ent} (h:O1 id es=true):C5 id es < es.length:=by
 unfold O1 at h
 cases hq:es[C5 id es]? with
 | none=>rw [hq] at h; cases h
 | some e=>exact (AB.1 hq).1
theorem c4l {es:List Ent} (x:Ent):∀ {i:Nat},i < es.length→n9 (k9 es) (i*4) x.row=k9 (es.set i x):=by
 intro i hi
 unfold n9
 rw [show x.row.length=4 from rfl,a5m,show i*4+4=(i+1)*4 by omega,a1T,List.set_eq_take_append_cons_drop,if_pos hi,a6Z,AW]
 rfl
theorem c52 {es:List Ent} {v:AV} {st:St} (h:EntsAt v es st) (hs:K6 es) (hl:es.length≤100000) (x:Ent):EvQ tbl 40 [.agg [v],.agg x.row] st (fun a st'=>∃ v',a=.agg [v']∧EntsAt v' (L4 es x) st'∧Gr st st'):=by
 obtain ⟨w1,w2,w3,w4,w5,w6,w7⟩:=h.wk
 have ex:x.row=[.str x.t,.str x.id,.list false (x.ks.map e8),.list false (x.ls.map Val.row)]:=rfl
 rw [ex]
 refine EvQ.body (fn:=a40) rfl rfl rfl ?_
 simp +contextual -implicitDefEqProofs only [K40,SS,rA,rS,rL,rE,reduceCtorEq,w1,w2,w3,w4,w5,w6,w7]
 rcases h with ⟨rfl,rfl⟩|⟨o,rfl,ho⟩
 · refine WC.call (b81 st) rfl rfl ?_
   rintro _ _ ⟨rfl,rfl⟩
   simp +contextual -implicitDefEqProofs only [K40,SS,rA,rS,rL,rE,reduceCtorEq]
   refine WC.call (b24 (.inl ⟨rfl,rfl⟩) hs hl x.id) rfl rfl ?_
   rintro _ st ⟨rfl,rfl⟩
   simp +contextual -implicitDefEqProofs only [K40,SS,rA,rS,rL,rE,reduceCtorEq,show O1 x.id []=false from rfl,show C5 x.id []=0 from rfl]
   have hi:=c0K x st
   rw [ex] at hi
   refine WC.call hi rfl rfl ?_
   rintro _ _ ⟨rfl,rfl⟩
   simp +contextual -implicitDefEqProofs only [K40,SS,rA,rS,rL,rE,reduceCtorEq]
   exact WC.ret ⟨_,_,rfl,_,rfl,.inr ⟨_,rfl,p8 st _⟩,Gr.app _ _⟩
 · refine WC.call (c0M ho hl) rfl rfl ?_
   rintro _ _ ⟨rfl,rfl⟩
   simp +contextual -implicitDefEqProofs only [K40,SS,rA,rS,rL,rE,reduceCtorEq]
   refine WC.call (b24 (.inr ⟨o,rfl,Gr.app st _ _ _ ho⟩) hs hl x.id) rfl rfl ?_
   rintro _ _ ⟨rfl,rfl⟩
   simp +contextual -implicitDefEqProofs only [K40,SS,rA,rS,rL,rE,reduceCtorEq]
   refine WC.br (fun hh=>?_) (fun hh=>?_)
   · have hlt:=b43 hh
     have hml:((C5 x.id es:Int) < (es.length:Int))=True:=by simp; omega
     have hnew:=p8 st (.cells (k9 es))
     have hseg:=c4l x hlt
     rw [ex] at hseg
     have hfit:C5 x.id es*4+4≤(k9 es).length:=by rw [a0z]; omega
     simp +contextual -implicitDefEqProofs only [K40,SS,rA,rS,rL,rE,reduceCtorEq,hml,if_true,hnew,hfit,hseg,N6]
     refine WC.ret ⟨_,_,rfl,_,rfl,.inr ⟨st.length,by rw [L4,if_pos hh,AY]; rfl,by rw [L4,if_pos hh,← hseg]; exact p8 st _⟩,Gr.app _ _⟩
   · have hp:=b4M x.id es
     have hi:=c5u x (p8 st (.cells (k9 es))) hl hp
     rw [ex] at hi
     simp +contextual -implicitDefEqProofs only [K40,SS,rA,rS,rL,rE,reduceCtorEq]
     refine WC.call hi rfl rfl ?_
     rintro _ _ ⟨rfl,rfl⟩
     simp +contextual -implicitDefEqProofs only [K40,SS,rA,rS,rL,rE,reduceCtorEq,N6]
     have hlen:(es.take (C5 x.id es)++x::es.drop (C5 x.id es)).length=es.length+1:=by simp; omega
     have e1:(st++[Cb.Obj.cells (k9 es)]).length=st.length+1:=by simp
     refine WC.ret ⟨_,_,rfl,_,rfl,.inr ⟨st.length+1,?_,?_⟩,fun i y hy=>?_⟩
     · rw [L4,if_neg (by rw [hh]; decide),hlen,e1]; rfl
     · rw [L4,if_neg (by rw [hh]; decide)]
       simp
     · exact Gr.app _ _ _ _ (Gr.app st _ _ _ hy)
end Go.Cb.CodeA
set_option maxRecDepth 20000
set_option linter.unusedSimpArgs false
set_option linter.unusedVariables false
namespace Go.Cb.CodeA
open Go Go.Cb
open Nat renaming reduceAdd→rA,reduceSub→rS,reduceLeDiff→rL,reduceEqDiff→rE
attribute [local congr] i7 j1 j2 j3 j0 i8 k6 j9 V.runR_congr
theorem c5b {e:Ent} {id:List Nat} (h:m3 e.id id=true) (es:List Ent):C5 id (e::es)=C5 id es+1∧O1 id (e::es)=O1 id es:=by
 have hp:C5 id (e::es)=C5 id es+1:=by rw [C5,if_pos h]
 refine ⟨hp,?_⟩
 unfold O1
 rw [hp,List.getElem?_cons_succ]
theorem c4m {e:Ent} {id:List Nat} (h:m3 e.id id=false) (es:List Ent):C5 id (e::es)=0∧O1 id (e::es)=eqN e.id id:=by
 have hp:C5 id (e::es)=0:=by rw [C5,h]; rfl
 refine ⟨hp,?_⟩
 unfold O1
 rw [hp,List.getElem?_cons_zero]
theorem a6A (e:Ent) (es:List Ent) (x:Ent):L4 (e::es) x=if m3 e.id x.id then e::L4 es x else if eqN e.id x.id then x::es else x::e::es:=by
 unfold L4
 rcases e9 (m3 e.id x.id) with h|h
 · obtain ⟨h1,h2⟩:=c5b h es
   rw [h1,h2,if_pos h]
   split
   · rw [List.set_cons_succ]
   · rw [List.take_succ_cons,List.drop_succ_cons]; rfl
 · obtain ⟨h1,h2⟩:=c4m h es
   simp only [h1,h2,h,Bool.false_eq_true,if_false]
   rfl
theorem b0w (x:Ent):L4 [] x=[x]:=rfl
theorem b0s {es:List Ent} {x y:Ent} (h:y∈L4 es x):y=x∨y∈es:=by
 induction es with
 | nil=>rw [b0w] at h; exact .inl (List.mem_singleton.1 h)
 | cons e es ih =>
  rw [a6A] at h
  split at h
  · rcases List.mem_cons.1 h with h|h
    · exact .inr (h ▸ List.mem_cons_self ..)
    · exact (ih h).imp id (List.mem_cons_of_mem _)
  · split at h
    · rcases List.mem_cons.1 h with h|h
      · exact .inl h
      · exact .inr (List.mem_cons_of_mem _ h)
    · exact List.mem_cons.1 h
theorem b0D {a b c:List Nat} (h:eqN a b=true) (h2:m3 a c=true):m3 b c=true:=by rw [← (b4y a b).1 h]; exact h2
theorem b1Z {es:List Ent} (hs:K6 es) (x:Ent):K6 (L4 es x):=by
 induction es with
 | nil=>rw [b0w]; exact List.pairwise_singleton _ _
 | cons e es ih =>
  rw [a6A]
  obtain ⟨h1,h2⟩:=List.pairwise_cons.1 hs
  rcases e9 (m3 e.id x.id) with h|h
  · rw [if_pos h]
    refine List.pairwise_cons.2 ⟨fun y hy=>?_,ih h2⟩
    rcases b0s hy with rfl|hy
    · exact h
    · exact h1 y hy
  · rw [if_neg (by rw [h]; decide)]
    rcases e9 (eqN e.id x.id) with h3|h3
    · rw [if_pos h3]
      exact List.pairwise_cons.2 ⟨fun y hy=>b0D h3 (h1 y hy),h2⟩
    · rw [if_neg (by rw [h3]; decide)]
      have h4:m3 x.id e.id=true:=by
       rcases e9 (m3 x.id e.id) with h4|h4
       · exact h4
       · rw [b2O _ _ h h4,Z2] at h3; cases h3
      refine List.pairwise_cons.2 ⟨fun y hy=>?_,hs⟩
      rcases List.mem_cons.1 hy with rfl|hy
      · exact h4
      · exact a0F _ _ _ h4 (h1 y hy)
theorem b88 (es:List Ent) (x:Ent):(L4 es x).length≤es.length+1:=by
 unfold L4
 split
 · rw [AY]; omega
 · simp; omega
def ofE (l:List Ent):List Ent:=l.foldl L4 []
theorem b1h (l:List Ent) (x:Ent):ofE (l++[x])=L4 (ofE l) x:=by unfold ofE; rw [List.foldl_append]; rfl
theorem b9s {α:Type} {P:List α→Prop} (h0:P []) (h1:∀ l x,P l→P (l++[x])) (l:List α):P l:=by
 have:∀ m:List α,P m.reverse:=by
  intro m
  induction m with
  | nil=>exact h0
  | cons x m ih=>rw [List.reverse_cons]; exact h1 _ _ ih
 have:=this l.reverse
 rwa [List.reverse_reverse] at this
theorem b6P (l:List Ent):K6 (ofE l)∧(ofE l).length≤l.length∧∀ y∈ofE l,y∈l:=by
 refine b9s (P:=fun l=>K6 (ofE l)∧(ofE l).length≤l.length∧∀ y∈ofE l,y∈l) ⟨List.Pairwise.nil,AJ _,fun y hy=>by cases hy⟩ (fun l x ih=>?_) l
 obtain ⟨h1,h2,h3⟩:=ih
 rw [b1h]
 refine ⟨b1Z h1 x,by have:=b88 (ofE l) x; rw [AE]; simp; omega,fun y hy=>?_⟩
 rcases b0s hy with rfl|hy
 · exact List.mem_append_right _ (by simp)
 · exact List.mem_append_left _ (h3 y hy)
theorem c6T {es:List Ent} {i:Nat} (h:i < es.length):(es.map Ent.row)[i]?=some (es[i]).row:=by
 rw [AQ,AD h]; rfl
theorem d5k (l:List Ent) (hl:l.length≤100000) (st:St):EvQ tbl 18 [.list false (l.map Ent.row)] st (fun a st'=>∃ v,a=.agg [v]∧EntsAt v (ofE l) st'∧Gr st st'):=by
 refine EvQ.body (fn:=a18) rfl rfl rfl ?_
 simp +contextual -implicitDefEqProofs only [K18,SS,rA,rS,rL,rE,reduceCtorEq,AF]
 refine WC.loopR (fun mm fr st'=>Gr st st'∧∃ (i:Nat) (v v3:AV),i≤l.length∧mm=l.length - i∧EntsAt v (ofE (l.take i)) st'∧fr=[.list false (l.map Ent.row),.box [.nils],.box [v],v3,.list false (l.map Ent.row),.int .i64 l.length,.int .i64 i]) (m:=l.length) ⟨Gr.refl st,0,_,_,Nat.zero_le _,rfl,.inl ⟨rfl,rfl⟩,rfl⟩ ?_
 rintro mm fr st' ⟨hg,i,v,v3,hi,rfl,hv,rfl⟩
 obtain ⟨w1,w2,w3,w4,w5,w6,w7⟩:=hv.wk
 simp +contextual -implicitDefEqProofs only [K18,SS,rA,rS,rL,rE,reduceCtorEq,ltN,w1,w2,w3,w4,w5,w6,w7]
 by_cases hil:i < l.length
 · have e1:=c6T hil
   have hof:ofE (l.take (i+1))=L4 (ofE (l.take i)) l[i]:=by
    rw [List.take_add_one,AD hil]
    exact b1h _ _
   obtain ⟨hs,hle,_⟩:=b6P (l.take i)
   have hw:=c52 hv hs (by rw [AO] at hle; omega) l[i]
   revert e1 hof hw
   generalize l[i]=x
   intro e1 hof hw
   have ex:x.row=[.str x.t,.str x.id,.list false (x.ks.map e8),.list false (x.ls.map Val.row)]:=rfl
   rw [ex] at e1 hw
   simp +contextual -implicitDefEqProofs only [K18,SS,rA,rS,rL,rE,reduceCtorEq,hil,e1,w1,w2,w3,w4,w5,w6,w7]
   refine WC.call hw (by simp only [R.allPlain_c,R.allPlain_n,R.plain_agg]; rfl) (by simp only [AG,AL,O3,w2]; rfl) ?_
   rintro _ st2 ⟨v',rfl,hv',hg'⟩
   obtain ⟨u1,u2,u3,u4,u5,u6,u7⟩:=hv'.wk
   simp +contextual -implicitDefEqProofs only [K18,SS,rA,rS,rL,rE,reduceCtorEq,u1,u2,u3,u4,u5,u6,u7,s9 (show i+1 < 2 ^ 63 by omega)]
   exact WC.next (m':=l.length - (i+1)) (by omega) ⟨hg.trans hg',i+1,v',_,hil,rfl,hof ▸ hv',rfl⟩
 · rw [List.take_of_length_le (by omega)] at hv
   simp +contextual -implicitDefEqProofs only [K18,SS,rA,rS,rL,rE,reduceCtorEq,hil]
   refine WC.leave ?_
   simp +contextual -implicitDefEqProofs only [K18,SS,rA,rS,rL,rE,reduceCtorEq,w1,w2,w3,w4,w5,w6,w7]
   exact WC.ret ⟨_,_,rfl,v,by simp only [List.take_succ_cons,List.take_zero,AG,AL,w2],hv,hg⟩
end Go.Cb.CodeA
set_option maxRecDepth 20000
set_option linter.unusedSimpArgs false
set_option linter.unusedVariables false
namespace Go.Cb.CodeA
open Go Go.Cb
attribute [local congr] i7 j1 j2 j3 j0 i8 k6 j9 V.runR_congr
def wR (x:Ent):List Ent→Bool→List Ent
 | [],d=>if d then [] else [x]
 | e::es,d=>(if !d && !m3 e.id x.id then [x] else [])++((if eqN e.id x.id then [] else [e])++wR x es (d || !m3 e.id x.id))
def ofR (l:List Ent):List Ent:=l.foldl (fun es x=>wR x es false) []
end Go.Cb.CodeA
set_option maxRecDepth 20000
set_option linter.unusedSimpArgs false
set_option linter.unusedVariables false
namespace Go.Cb.CodeA
open Go Go.Cb
open Nat renaming reduceAdd→rA,reduceSub→rS,reduceLeDiff→rL,reduceEqDiff→rE
attribute [local congr] i7 j1 j2 j3 j0 i8 k6 j9 V.runR_congr
theorem a2V (n:Int):eqI n n=true:=by rw [eqI_eq]; simp
inductive Val.Fin:Val→Prop
 | mk (k n:Int) (s:List Nat) (ks:List (List Nat)) (ls:List Val) (hk:ks.length < 2 ^ 62) (hl:ls.length < 2 ^ 62) (h:∀ v∈ls,Val.Fin v):Val.Fin (.mk k n s ks ls)
theorem Small.fin {v:Val} (h:Small v):v.Fin:=by
 obtain ⟨k,n,s,ls,rfl,_,hl,hu⟩:=h
 refine .mk _ _ _ _ _ (by decide) (by omega) fun u hu'=>?_
 obtain ⟨k,n,s,rfl,_⟩:=hu u hu'
 exact .mk _ _ _ _ _ (by decide) (by decide) fun u hu=>by cases hu
theorem b5L {es:List Ent} {i:Nat} (h:i < es.length):(4≤(List.drop (i*4) (k9 es)).length)=True∧List.map AV.weak1 (List.take 4 (List.drop (i*4) (k9 es)))=es[i].row:=by
 have h4:=a9G h
 rw [R.takeVal_t] at h4
 split at h4
 · rename_i hl
   exact ⟨by simpa using hl,by simpa using h4⟩
 · cases h4
def Ent.none:Ent:=⟨[],[],[],[]⟩
def a0x (es:List Ent) (id:List Nat):Option Ent:=if O1 id es then es[C5 id es]? else .none
theorem a3u {es:List Ent} {id:List Nat} {e:Ent} (h:a0x es id=some e):e∈es∧eqN e.id id=true:=by
 unfold a0x at h
 split at h
 · rename_i hh
   unfold O1 at hh
   rw [h] at hh
   exact ⟨List.mem_of_getElem? h,hh⟩
 · cases h
theorem b5g {es:List Ent} {v:AV} {st:St} (hv:EntsAt v es st) (hs:K6 es) (hl:es.length≤100000) (id:List Nat):EvQ tbl 29 [.agg [v],.str id] st (fun a st'=>st'=st∧a=.tuple [.agg ((a0x es id).getD Ent.none).row,.bool (a0x es id).isSome]):=by
 have hfi:=b24 hv hs hl id
 have hlt:=fun h=>b43 (es:=es) (id:=id) h
 rcases hv with ⟨rfl,rfl⟩|⟨o,rfl,ho⟩
 · refine EvQ.body (fn:=a29) rfl rfl rfl ?_
   simp +contextual -implicitDefEqProofs only [K29,SS,rA,rS,rL,rE,reduceCtorEq]
   refine WC.call hfi rfl rfl ?_
   rintro _ _ ⟨rfl,rfl⟩
   simp +contextual -implicitDefEqProofs only [K29,SS,rA,rS,rL,rE,reduceCtorEq,show O1 id []=false from rfl,Bool.not_false]
   exact WC.ret ⟨_,_,rfl,rfl,rfl⟩
 · refine EvQ.body (fn:=a29) rfl rfl rfl ?_
   simp +contextual -implicitDefEqProofs only [K29,SS,rA,rS,rL,rE,reduceCtorEq]
   refine WC.call hfi rfl rfl ?_
   rintro _ _ ⟨rfl,rfl⟩
   unfold a0x
   rcases e9 (O1 id es) with h|h
   · have hil:=hlt h
     obtain ⟨hld,hle⟩:=b5L hil
     have hml:((C5 id es:Int) < (es.length:Int))=True:=by simp; omega
     rw [if_pos h,AD hil]
     revert hle
     generalize es[C5 id es]=e
     intro hle
     have ee:e.row=[.str e.t,.str e.id,.list false (e.ks.map e8),.list false (e.ls.map Val.row)]:=rfl
     rw [ee] at hle
     simp +contextual -implicitDefEqProofs only [K29,SS,rA,rS,rL,rE,reduceCtorEq,h,Bool.not_true,hml,if_true,ho,hld,hle]
     exact WC.ret ⟨_,_,rfl,rfl,rfl⟩
   · rw [h,if_neg (by decide)]
     simp +contextual -implicitDefEqProofs only [K29,SS,rA,rS,rL,rE,reduceCtorEq,h,Bool.not_false]
     exact WC.ret ⟨_,_,rfl,rfl,rfl⟩
end Go.Cb.CodeA
set_option maxRecDepth 20000
set_option linter.unusedSimpArgs false
set_option linter.unusedVariables false
namespace Go.Cb.CodeA
open Go Go.Cb
open Nat renaming reduceAdd→rA,reduceSub→rS,reduceLeDiff→rL,reduceEqDiff→rE
attribute [local congr] i7 j1 j2 j3 j0 i8 k6 j9 V.runR_congr
def TRef.nm:TRef→List Nat
 | .base n _=>n
 | .wrap _ _=>[]
def TRef.of:TRef→List (List AV)
 | .base _ _=>[]
 | .wrap t _=>[t.row]
def TRef.bang:TRef→Bool
 | .base _ b=>b
 | .wrap _ b=>b
def TRef.bs:TRef→List Nat
 | .base n _=>n
 | .wrap t _=>t.bs
theorem TRef.row_eta (t:TRef):t.row=[.str t.nm,.list false t.of,.bool t.bang]:=by cases t <;> rfl
def Val.names:Val→List (List Nat)|.mk _ _ _ ks _=>ks
def Val.vals:Val→List Val|.mk _ _ _ _ ls=>ls
theorem Val.row_eta (v:Val):v.row=[.int .u8 v.kind,.int .i64 v.num,.str v.text,.list false (v.names.map e8),.list false (v.vals.map Val.row)]:=by
 cases v; exact Val.row_eq _ _ _ _ _
structure FDef where
 n:List Nat
 ar:List (List AV)
 t:TRef
 has:Bool
 v:Val
def FDef.row (f:FDef):List AV:=[.str f.n,.list false f.ar,.str f.t.nm,.list false f.t.of,.bool f.t.bang,.bool f.has,.int .u8 f.v.kind,.int .i64 f.v.num,.str f.v.text,.list false (f.v.names.map e8),.list false (f.v.vals.map Val.row)]
def FDef.none:FDef:=⟨[],[],.base [] false,false,Val.none⟩
def D5 (ks:List (List Nat)) (ls:List Val):Cb.Obj:=.cells [.int .u8 6,.int .i64 0,.str [],.list true (ks.map e8),.list true (ls.map Val.row)]
def Sel.nm:Sel→List Nat|.mk _ _ nm _ _ _ _=>nm
def Sel.as:Sel→List Arg|.mk _ _ _ _ as _ _=>as
def Sel.sub:Sel→List Sel|.mk _ _ _ _ _ _ sub=>sub
structure RS where
 ps:List (List (List Nat)×Int)
 part:Bool
 steps:Nat
def RS.prob (s:RS) (p:List (List Nat)) (e:Int):RS:=⟨s.ps++[(p,e)],s.part,s.steps⟩
def RS.step (s:RS):RS:=⟨s.ps,s.part,if s.steps≤5000 then s.steps+1 else s.steps⟩
structure REnv where
 so:Nat
 ops:List (List AV)
 frs:List (List AV)
 es:List Ent
 v:AV
 whole:Bool
 tv:AV
 vk:Int
 vn:Int
 vs:List Nat
 vks:List (List AV)
 vls:List (List AV)
 fld:List Nat→List Nat→Option FDef
 grp:List Nat→List Sel→List (List Nat×List Sel)
 poss:List Nat→List (List Nat)
 leaf:List Nat→Bool
 fits:List Nat→Val→Bool
 knows:List Nat→Bool
 args:FDef→List Arg→Val×Int
def REnv.know (E:REnv) (s:RS) (n:List Nat):RS:=if E.knows n then s else ⟨s.ps,true,s.steps⟩
def REnv.vars (E:REnv):List AV:=[.int .u8 E.vk,.int .i64 E.vn,.str E.vs,.list false E.vks,.list false E.vls]
def VX (v:Val):Prop:=∃ k n s ls,v=.mk k n s [] ls∧k≠6∧ls.length≤100000∧∀ u∈ls,∃ k n s,u=.mk k n s [] []∧k≠6
theorem VX.one {k n:Int} {s:List Nat} (h:k≠6):VX (.mk k n s [] []):=⟨k,n,s,[],rfl,h,by decide,by simp⟩
theorem VX.none:VX Val.none:=VX.one (by decide)
theorem Small.vx {v:Val} (h:Small v):VX v:=let ⟨k,n,s,ls,h1,h2,h3,h4⟩:=h; ⟨k,n,s,ls,h1,h2.1.1,by omega,fun u hu=>let ⟨k,n,s,e,hk⟩:=h4 u hu; ⟨k,n,s,e,hk.1⟩⟩
theorem VX.sub {k n:Int} {s:List Nat} {ks:List (List Nat)} {ls:List Val} (h:VX (.mk k n s ks ls)):∀ u∈ls,VX u:=fun u hu=>by
 obtain ⟨k',n',s',ls',e,_,_,h4⟩:=h
 cases e
 obtain ⟨k,n,s,rfl,hk⟩:=h4 u hu
 exact VX.one hk
def I9 (ps:List (List (List Nat)×Int)):List AV:=ps.flatMap fun p=>[.list false (p.1.map e8),.int .i64 p.2]
theorem b6e (ps:List (List (List Nat)×Int)):(I9 ps).length=ps.length*2:=by
 induction ps with
 | nil=>rfl
 | cons p ps ih=>rw [show I9 (p::ps)=[.list false (p.1.map e8),.int .i64 p.2]++I9 ps from rfl,AE,ih,AX]; simp; omega
theorem b46 (a b:List (List (List Nat)×Int)):I9 (a++b)=I9 a++I9 b:=by simp [I9]
def F4 (E:REnv) (s:RS) (pv:AV):List AV:=[.ptr E.so 0,.list false E.ops,.list false E.frs,E.v,.bool E.whole,E.tv,.int .u8 E.vk,.int .i64 E.vn,.str E.vs,.list false E.vks,.list false E.vls,pv,.bool s.part,.int .i64 s.steps]
def PAt (b:Nat) (pv:AV) (ps:List (List (List Nat)×Int)) (st:St):Prop:=(pv=.nils∧ps=[])∨∃ o,b < o∧pv=.sl o 0 ps.length 2∧st[o]?=some (.cells (I9 ps))
structure RunAt (E:REnv) (B:St) (s:RS) (pv:AV) (st:St):Prop where
 ob:st[B.length]?=some (.cells (F4 E s pv))
 pr:PAt B.length pv s.ps st
 gr:Gr B st
 le:s.steps≤5001
 pl:∀ x∈s.ps,x.1.length≤100000
structure RK (B:St) (pv:AV) (st:St) (pv':AV) (st':St):Prop where
 keep:∀ i x,i≠B.length→B8 pv≠some i→st[i]?=some x→st'[i]?=some x
 len:st.length≤st'.length
 pv:pv'=pv∨∀ o,B8 pv'=some o→st.length≤o
theorem RK.refl (B:St) (pv:AV) (st:St):RK B pv st pv st:=⟨fun _ _ _ _ h=>h,AJ _,.inl rfl⟩
theorem RK.trans {B:St} {pv pv1 pv2:AV} {st st1 st2:St} (h:RK B pv st pv1 st1) (h2:RK B pv1 st1 pv2 st2):RK B pv st pv2 st2:=by
 refine ⟨fun i x hi hr hx=>h2.keep i x hi (fun hr2=>?_) (h.keep i x hi hr hx),Nat.le_trans h.len h2.len,?_⟩
 · rcases h.pv with e|e
   · rw [e] at hr2; exact hr hr2
   · have:=e i hr2
     have:=(AB.1 hx).1
     omega
 · rcases h2.pv with e|e
   · rw [e]; exact h.pv
   · exact .inr fun o ho=>Nat.le_trans h.len (e o ho)
theorem RK.of_gr {B:St} {pv:AV} {st st':St} (h:Gr st st') (hl:st.length≤st'.length):RK B pv st pv st':=⟨fun i x _ _ hx=>h i x hx,hl,.inl rfl⟩
theorem PAt.wk {b:Nat} {pv:AV} {ps:List (List (List Nat)×Int)} {st:St} (h:PAt b pv ps st):pv.weak=pv∧pv.weak1=pv∧pv.strip=pv∧pv.stripB=pv∧pv.plain=true∧pv.cells=[pv]∧pv.cellsW=[pv]:=by
 rcases h with ⟨rfl,_⟩|⟨o,_,rfl,_⟩ <;> exact ⟨rfl,rfl,rfl,rfl,rfl,rfl,rfl⟩
theorem PAt.root {b:Nat} {pv:AV} {ps:List (List (List Nat)×Int)} {st:St} (h:PAt b pv ps st):∀ o,B8 pv=some o→b < o∧o < st.length:=fun o ho=>by
 rcases h with ⟨rfl,_⟩|⟨p,hp,rfl,hx⟩
 · cases ho
 · cases ho; exact ⟨hp,(AB.1 hx).1⟩
theorem RunAt.grow {E:REnv} {B:St} {s:RS} {pv:AV} {st st':St} (h:RunAt E B s pv st) (hg:Gr st st'):RunAt E B s pv st' :=
 ⟨hg _ _ h.ob,by rcases h.pr with hp|⟨o,h1,h2,h3⟩; exact .inl hp; exact .inr ⟨o,h1,h2,hg _ _ h3⟩,h.gr.trans hg,h.le,h.pl⟩
theorem RunAt.put {E:REnv} {B:St} {s s':RS} {pv:AV} {st:St} (h:RunAt E B s pv st) (hps:s'.ps=s.ps) (hle:s'.steps≤5001):RunAt E B s' pv (st.set B.length (.cells (F4 E s' pv)))∧RK B pv st pv (st.set B.length (.cells (F4 E s' pv))):=by
 have hk:∀ i x,i≠B.length→st[i]?=some x→(st.set B.length (.cells (F4 E s' pv)))[i]?=some x:=fun i x hi hx=>by rw [List.getElem?_set_ne (by omega)]; exact hx
 refine ⟨⟨List.getElem?_set_self (AB.1 h.ob).1,?_,fun i x hx=>?_,hle,by rw [hps]; exact h.pl⟩,fun i x hi _ hx=>hk i x hi hx,by simp,.inl rfl⟩
 · rw [hps]
   rcases h.pr with hp|⟨o,h1,h2,h3⟩
   · exact .inl hp
   · exact .inr ⟨o,h1,h2,hk o _ (by omega) h3⟩
 · exact hk i x (by have:=(AB.1 hx).1; omega) (h.gr i x hx)
theorem d5D (a:Int) (b:Int):(!ltI b a)=decide (a≤b):=by
 rw [ltI_eq]
 by_cases h:a≤b
 · rw [decide_eq_true h,decide_eq_false (by omega)]; rfl
 · rw [decide_eq_false h,decide_eq_true (by omega)]; rfl
theorem b7K {E:REnv} {B:St} {s:RS} {pv:AV} {st:St} (h:RunAt E B s pv st):EvQ tbl 85 [.ptr B.length 0] st (fun a st'=>a=.bool (decide (s.step.steps≤5000))∧RunAt E B s.step pv st'∧RK B pv st pv st'):=by
 have hob:=h.ob
 have hle:=h.le
 obtain ⟨w1,w2,w3,w4,w5,w6,w7⟩:=h.pr.wk
 unfold F4 at hob
 refine EvQ.body (fn:=a85) rfl rfl rfl ?_
 simp +contextual -implicitDefEqProofs only [K85,SS,rA,rS,rL,rE,reduceCtorEq,hob]
 by_cases hs:s.steps≤5000
 · have c:ltI 5000 (s.steps:Int)=false:=by rw [ltI_eq]; simp; omega
   obtain ⟨h1,h2⟩:=h.put (s':=s.step) rfl (by unfold RS.step; dsimp only; rw [if_pos hs]; omega)
   have e:F4 E s.step pv=[.ptr E.so 0,.list false E.ops,.list false E.frs,E.v,.bool E.whole,E.tv,.int .u8 E.vk,.int .i64 E.vn,.str E.vs,.list false E.vks,.list false E.vls,pv,.bool s.part,.int .i64 ((s.steps+1:Nat):Int)]:=by unfold F4 RS.step; dsimp only; rw [if_pos hs]
   have hst:s.step.steps=s.steps+1:=by unfold RS.step; dsimp only; rw [if_pos hs]
   rw [hst]
   rw [e] at h1 h2
   have hget:∀ y:Cb.Obj,(st.set B.length y)[B.length]?=some y:=fun y=>List.getElem?_set_self (AB.1 hob).1
   have c2:(!ltI 5000 ((s.steps+1:Nat):Int))=decide (s.steps+1≤5000):=by rw [d5D]; apply decide_eq_decide.2; omega
   simp +contextual -implicitDefEqProofs only [K85,SS,rA,rS,rL,rE,reduceCtorEq,c,hob,hget,s9 (show s.steps+1 < 2 ^ 63 by omega),c2]
   refine WC.ret ⟨_,_,rfl,?_,h1,h2⟩
   rfl
 · have hst:s.step=s:=by unfold RS.step; rw [if_neg hs]
   have c:ltI 5000 (s.steps:Int)=true:=by rw [ltI_eq]; simp; omega
   rw [hst]
   simp +contextual -implicitDefEqProofs only [K85,SS,rA,rS,rL,rE,reduceCtorEq,c,hob]
   refine WC.ret ⟨_,_,rfl,?_,h,RK.refl _ _ _⟩
   rw [decide_eq_false hs]
   rfl
end Go.Cb.CodeA
set_option maxRecDepth 20000
set_option linter.unusedSimpArgs false
set_option linter.unusedVariables false
namespace Go.Cb.CodeA
open Go Go.Cb
open Nat renaming reduceAdd→rA,reduceSub→rS,reduceLeDiff→rL,reduceEqDiff→rE
attribute [local congr] i7 j1 j2 j3 j0 i8 k6 j9 V.runR_congr
theorem a5y (l:List (List Nat)) (hl:l.length≤100000000) (st:St):EvQ tbl 86 [.list false (l.map e8)] st (fun a st'=>st'=st∧a=.list true (l.map e8)):=by
 refine EvQ.of_ext (fn:=a86) (r:=(.list true (l.map e8),st)) rfl rfl ?_ ⟨rfl,rfl⟩
 simp only [a0j,a2e,AF,Bool.true_and]
 rw [if_pos (by simp; omega)]
theorem b5f (n:Nat):(n.beq n=true)=True:=by simp
theorem b97 {st:St} {o:Nat} {x:Cb.Obj} (h:st[o]?=some x):kept st st [.ptr o 0]=true:=by
 simp only [kept,B8,h,Bool.and_true]
 exact (Q2 _ _).2 rfl
theorem RunAt.newp {E:REnv} {B:St} {s:RS} {pv:AV} {st:St} (h:RunAt E B s pv st) {st1:St} (hk:∀ i x,i≠B.length→B8 pv≠some i→st[i]?=some x→st1[i]?=some x) (hl:st1.length=st.length+1) {ps':List (List (List Nat)×Int)} (hnew:st1[st.length]?=some (.cells (I9 ps'))) {n:Nat} (hps:n=ps'.length) (hpp:∀ x∈ps',x.1.length≤100000) :
 RunAt E B ⟨ps',s.part,s.steps⟩ (.sl st.length 0 n 2) (st1.set B.length (.cells (F4 E ⟨ps',s.part,s.steps⟩ (.sl st.length 0 n 2))))∧RK B pv st (.sl st.length 0 n 2) (st1.set B.length (.cells (F4 E ⟨ps',s.part,s.steps⟩ (.sl st.length 0 n 2)))):=by
 subst hps
 have hlt:B.length < st.length:=(AB.1 h.ob).1
 have hk2:∀ (y:Cb.Obj) i x,i≠B.length→st1[i]?=some x→(st1.set B.length y)[i]?=some x:=fun y i x hi hx=>by rw [List.getElem?_set_ne (by omega)]; exact hx
 refine ⟨⟨List.getElem?_set_self (by omega),.inr ⟨st.length,hlt,rfl,hk2 _ _ _ (by omega) hnew⟩,fun i x hx=>?_,h.le,hpp⟩,fun i x hi hr hx=>hk2 _ i x hi (hk i x hi hr hx),by rw [AY]; omega,.inr fun o ho=>by cases ho; exact AJ _⟩
 have hi:i < B.length:=(AB.1 hx).1
 exact hk2 _ i x (by omega) (hk i x (by omega) (fun hr=>by have:=(h.pr.root i hr).1; omega) (h.gr i x hx))
theorem a1J {E:REnv} {B:St} {s:RS} {pv:AV} {st:St} (h:RunAt E B s pv st) {path:List (List Nat)} (hp:path≠[]) (hpl:path.length≤100000) (hn:s.ps.length≤100000) (e:Int) :
 EvQ tbl 136 [.ptr B.length 0,.list false (path.map e8),.int .i64 e] st (fun a st'=>∃ pv',RunAt E B (s.prob path e) pv' st'∧RK B pv st pv' st'):=by
 have hob:=h.ob
 obtain ⟨w1,w2,w3,w4,w5,w6,w7⟩:=h.pr.wk
 have hlt:B.length < st.length:=(AB.1 hob).1
 unfold F4 at hob
 have hie:(path.map e8).isEmpty=false:=by cases path with|nil=>exact absurd rfl hp|cons x xs=>rfl
 refine EvQ.body (fn:=a136) rfl rfl rfl ?_
 simp +contextual -implicitDefEqProofs only [b9G,SS,rA,rS,rL,rE,reduceCtorEq,hob,Y6,b5f,if_true,w1,w2,w3,w4,w5,w6,w7]
 refine WC.callA (a5y path (by omega) st) rfl rfl ?_
 rintro _ st ⟨rfl,rfl⟩
 refine ⟨b97 hob,?_⟩
 have g32:1*32≤2 ^ 47:=by decide
 have g12:∀ pv',12≤(F4 E s pv').length:=fun pv'=>by simp [F4]
 rcases h.pr with ⟨rfl,hps⟩|⟨o,ho,rfl,hx⟩
 · have hob1:=fun y=>l5 (y:=y) hob
   obtain ⟨f1,f2⟩:=h.newp (st1:=st++[.cells (I9 [(path,e)])]) (fun i x _ _ hx=>l5 hx) (by simp) (p8 _ _) (n:=1) rfl (fun x hx=>by simp at hx; rw [hx]; exact hpl)
   simp +contextual -implicitDefEqProofs only [b9G,SS,rA,rS,rL,rE,reduceCtorEq,g32,if_true,hob1]
   exact WC.ret ⟨_,_,rfl,.sl st.length 0 1 2,by rw [RS.prob,hps]; exact f1,f2⟩
 · have hob1:∀ y:Cb.Obj,(st.set o .dead++[y])[B.length]?=some (.cells (F4 E s (.sl o 0 s.ps.length 2))):=fun y=>l5 (by rw [List.getElem?_set_ne (by omega)]; exact hob)
   have hxl:(I9 s.ps).length=s.ps.length*2:=b6e _
   have g33:(s.ps.length+1)*32≤2 ^ 47:=by omega
   obtain ⟨f1,f2⟩:=h.newp (st1:=st.set o .dead++[.cells (I9 (s.ps++[(path,e)]))]) (fun i x _ hr hx=>l5 (by rw [List.getElem?_set_ne (fun h=>hr (by rw [h]; rfl))]; exact hx)) (by simp) (by have:=p8 (st.set o .dead) (.cells (I9 (s.ps++[(path,e)]))); rw [AY] at this; exact this) (n:=s.ps.length+1) (by simp) (fun x hx=>by
    rcases AP.1 hx with hx|hx
    · exact h.pl x hx
    · simp at hx; rw [hx]; exact hpl)
   unfold F4 at hob1
   rw [b46] at f1 f2
   simp +contextual -implicitDefEqProofs only [b9G,SS,rA,rS,rL,rE,reduceCtorEq,hx,hxl,g33,if_true,hob1]
   exact WC.ret ⟨_,_,rfl,.sl st.length 0 (s.ps.length+1) 2,f1,f2⟩
end Go.Cb.CodeA
set_option maxRecDepth 20000
set_option linter.unusedSimpArgs false
set_option linter.unusedVariables false
namespace Go.Cb.CodeA
open Go Go.Cb
open Nat renaming reduceAdd→rA,reduceSub→rS,reduceLeDiff→rL,reduceEqDiff→rE
attribute [local congr] i7 j1 j2 j3 j0 i8 k6 j9 V.runR_congr
theorem Gr.len {st st':St} (h:Gr st st'):st.length≤st'.length:=by
 rcases Nat.lt_or_ge st'.length st.length with hlt|hge
 · have:=h st'.length _ (AD hlt)
   rw [List.getElem?_eq_none (AJ _)] at this
   cases this
 · exact hge
theorem a0K (a b:List Sel):sizes (a++b)=sizes a+sizes b:=by
 induction a with
 | nil=>simp [sizes]
 | cons x a ih=>rw [List.cons_append,m0,m0,ih]; omega
theorem a1I:∀ l:List Sel,l.length≤sizes l
 | []=>Nat.zero_le _
 | x::l=>by
  have:=a1I l
  cases x
  rw [m0,a0X,AX]; omega
def m2 (fs:List Sel):List Sel:=fs.flatMap Sel.sub
theorem a0H:∀ fs:List Sel,sizes (m2 fs)≤sizes fs
 | []=>AJ _
 | x::l=>by
  have:=a0H l
  cases x
  rw [m0,a0X,show ∀ k al nm on as ds sub,m2 (Sel.mk k al nm on as ds sub::l)=sub++m2 l from fun _ _ _ _ _ _ _=>rfl,a0K]; omega
theorem b5A (l:List Sel) (i:Nat):sizes (l.take i)≤sizes l:=by
 have:=a0K (l.take i) (l.drop i)
 rw [List.take_append_drop] at this
 omega
theorem a6p {s:Sel} (h:s.OK):∀ u∈s.sub,u.OK:=by
 cases h
 assumption
theorem c4n {fs:List Sel} (h:∀ s∈fs,s.OK):∀ s∈m2 fs,s.OK:=fun s hs=>by
 obtain ⟨f,hf,hs⟩:=List.mem_flatMap.1 hs
 exact a6p (h f hf) s hs
theorem b3w (es:List Sel):∀ i,(o9 es).drop (i*7)=o9 (es.drop i):=by
 induction es with
 | nil=>intro i; simp [o9]
 | cons e es ih =>
  intro i
  cases i with
  | zero=>rw [Nat.zero_mul,List.drop_zero,List.drop_zero]
  | succ i =>
   rw [List.drop_succ_cons,← ih i,show (i+1)*7=7+i*7 by omega,← List.drop_drop,show o9 (e::es)=e.row++o9 es from rfl]
   have:(e.row++o9 es).drop 7=o9 es:=by
    have hl:=Sel.row_len e
    rw [List.drop_append_of_le_length (by omega),List.drop_of_length_le (by omega)]
    rfl
   rw [this]
theorem c89 (s:Sel):s.row.map AV.weak1=s.row:=by
 cases s
 rw [Sel.row_eq]
 rfl
theorem b6z {es:List Sel} {i:Nat} (h:i < es.length):(7≤(List.drop (i*7) (o9 es)).length)=True∧List.map AV.weak1 (List.take 7 (List.drop (i*7) (o9 es)))=es[i].row:=by
 rw [b3w,List.drop_eq_getElem_cons h]
 have hl:=Sel.row_len es[i]
 have e:o9 (es[i]::es.drop (i+1))=es[i].row++o9 (es.drop (i+1)):=rfl
 rw [e]
 refine ⟨by simp; omega,?_⟩
 rw [List.take_append_of_le_length (by omega),List.take_of_length_le (by omega),c89]
theorem d2j {fs:List Sel} (hok:∀ s∈fs,s.OK) (hsz:sizes fs≤90000000) {fo:Nat} {st:St} (h:st[fo]?=some (.cells (o9 fs))) (key:List Nat) :
 EvQ tbl 194 [.agg [.str key,.sl fo 0 fs.length 7]] st (fun a st'=>st'=st∧a=.list false ((m2 fs).map Sel.row)):=by
 have hfl:=a1I fs
 refine EvQ.body (fn:=a194) rfl rfl rfl ?_
 simp +contextual -implicitDefEqProofs only [b1u,SS,rA,rS,rL,rE,reduceCtorEq]
 refine WC.loopR (fun mm fr st'=>st'=st∧∃ (i:Nat) (v4:AV),i≤fs.length∧mm=fs.length - i∧fr=[.agg [.str key,.sl fo 0 fs.length 7],.box [.str key,.sl fo 0 fs.length 7],.list true [],.list true ((m2 (fs.take i)).map Sel.row),v4,.sl fo 0 fs.length 7,.int .i64 fs.length,.int .i64 i]) (m:=fs.length) ⟨rfl,0,_,Nat.zero_le _,rfl,rfl⟩ ?_
 rintro mm fr st' ⟨rfl,i,v4,hi,rfl,rfl⟩
 simp +contextual -implicitDefEqProofs only [b1u,SS,rA,rS,rL,rE,reduceCtorEq,ltN]
 by_cases hil:i < fs.length
 · obtain ⟨hld,hle⟩:=b6z hil
   have hml:((i:Int) < (fs.length:Int))=True:=by simp; omega
   have e3:m2 (fs.take (i+1))=m2 (fs.take i)++fs[i].sub:=by
    rw [List.take_add_one,AD hil,m2,List.flatMap_append]
    simp [m2]
   have g1:((m2 (fs.take i)).length+fs[i].sub.length)*128≤2 ^ 47:=by
    have a1:=a1I (m2 (fs.take (i+1)))
    have a2:=a0H (fs.take (i+1))
    have a3:=b5A fs (i+1)
    rw [e3,AE] at a1
    rw [e3] at a2
    exact Nat.le_trans (Nat.mul_le_mul_right 128 (show _≤90000000 by omega)) (by decide)
   have hr1:l3 7 ((m2 (fs.take i)).map Sel.row)=true:=b3U _
   revert hle e3 g1
   generalize fs[i]=s
   obtain ⟨k,al,nm,on,as,ds,sub⟩:=s
   intro hle e3 g1
   have hr2:l3 7 (sub.map Sel.row)=true:=b3U _
   have g1:((m2 (fs.take i)).length+sub.length)*128≤2 ^ 47:=g1
   rw [Sel.row_eq] at hle
   simp +contextual -implicitDefEqProofs only [b1u,SS,rA,rS,rL,rE,reduceCtorEq,hil,hml,if_true,h,R.ldAn_ptr,R.takeVal_t,hld,hle,hr1,hr2,AF,g1,s9 (show i+1 < 2 ^ 63 by omega)]
   exact WC.next (m':=fs.length - (i+1)) (by omega) ⟨rfl,i+1,_,hil,rfl,by rw [e3,AU]; rfl⟩
 · rw [List.take_of_length_le (by omega)]
   simp +contextual -implicitDefEqProofs only [b1u,SS,rA,rS,rL,rE,reduceCtorEq,hil]
   refine WC.leave ?_
   simp +contextual -implicitDefEqProofs only [b1u,SS,rA,rS,rL,rE,reduceCtorEq]
   exact WC.ret ⟨_,_,rfl,rfl,rfl⟩
def atK (k:Int) (ks:List (List Nat)) (ls:List Val) (n:List Nat):Val:=(if eqI k 6 then (match pI (fun x=>eqN n x) ks with|some i=>ls[i]?|none=>none) else none).getD Val.none
theorem b7B {k m:Int} {s:List Nat} {ks:List (List Nat)} {ls:List Val} (hk:ks.length≤100000000) (he:k=6→ks.length=ls.length) (n:List Nat) (st:St) :
 EvQ tbl 79 [.agg [.int .u8 k,.int .i64 m,.str s,.list false (ks.map e8),.list false (ls.map Val.row)],.str n] st (fun a st'=>st'=st∧∃ b,a=.tuple [.agg (atK k ks ls n).row,.bool b]) :=
 c2P (K:=⟨0,[],[],[],k,m,s,ks,ls,fun _=>[]⟩) ⟨hk,he,by simp,by simp⟩ n st
def TRef.depth:TRef→Nat
 | .base _ _=>0
 | .wrap t _=>t.depth+1
theorem c7w (t:TRef) (st:St):EvQ tbl 134 [.agg t.row] st (fun a st'=>st'=st∧a=.str t.bs):=by
 rw [t.row_eta]
 refine EvQ.body (fn:=a134) rfl rfl rfl ?_
 simp +contextual -implicitDefEqProofs only [b5i,SS,rA,rS,rL,rE,reduceCtorEq]
 refine WC.loopR (fun mm fr st'=>st'=st∧∃ (u:TRef),mm=u.depth∧u.bs=t.bs∧fr=[.agg [.str t.nm,.list false t.of,.bool t.bang],.box [.str u.nm,.list false u.of,.bool u.bang],.str []]) (m:=t.depth) ⟨rfl,t,rfl,rfl,rfl⟩ ?_
 rintro mm fr st' ⟨rfl,u,rfl,hb,rfl⟩
 cases u with
 | base n b =>
  simp +contextual -implicitDefEqProofs only [b5i,SS,rA,rS,rL,rE,reduceCtorEq,TRef.nm,TRef.of,TRef.bang,List.length_nil,show ltI 0 ((0:Nat):Int)=false from rfl]
  refine WC.leave ?_
  simp +contextual -implicitDefEqProofs only [b5i,SS,rA,rS,rL,rE,reduceCtorEq]
  exact WC.ret ⟨_,_,rfl,rfl,by rw [← hb]; rfl⟩
 | wrap u b =>
  simp +contextual -implicitDefEqProofs only [b5i,SS,rA,rS,rL,rE,reduceCtorEq,TRef.nm,TRef.of,TRef.bang,u.row_eta,AX,List.length_nil,show ltI 0 (((0+1:Nat)):Int)=true from rfl,List.getElem?_cons_zero]
  exact WC.next (m':=u.depth) (by rw [TRef.depth]; omega) ⟨rfl,u,rfl,hb,rfl⟩
theorem c7y (i:Nat) (hi:i≤1000000) (st:St):EvQ tbl 191 [.int .i64 (i:Int)] st (fun a st'=>st'=st∧a=.str (H1 (i:Int))):=by
 have hf:EvQ tbl 201 [.int .i64 (i:Int),.int .i64 10] st (fun a st'=>st'=st∧a=.str (H1 (i:Int))) :=
  EvQ.of_ext (fn:=a201) rfl rfl (by unfold a8Q; exact if_pos ⟨by omega,by omega⟩) ⟨rfl,rfl⟩
 have h2:EvQ tbl 203 [.int .i64 (i:Int)] st (fun a st'=>st'=st∧a=.str (H1 (i:Int))):=by
  refine EvQ.body (fn:=a203) rfl rfl rfl ?_
  simp +contextual -implicitDefEqProofs only [c7z,SS,rA,rS,rL,rE,reduceCtorEq]
  refine WC.call hf rfl rfl ?_
  rintro _ _ ⟨rfl,rfl⟩
  simp +contextual -implicitDefEqProofs only [c7z,SS,rA,rS,rL,rE,reduceCtorEq]
  exact WC.ret ⟨_,_,rfl,rfl,rfl⟩
 refine EvQ.body (fn:=a191) rfl rfl rfl ?_
 simp +contextual -implicitDefEqProofs only [c7D,SS,rA,rS,rL,rE,reduceCtorEq]
 refine WC.call h2 rfl rfl ?_
 rintro _ _ ⟨rfl,rfl⟩
 simp +contextual -implicitDefEqProofs only [c7D,SS,rA,rS,rL,rE,reduceCtorEq]
 exact WC.ret ⟨_,_,rfl,rfl,rfl⟩
end Go.Cb.CodeA
set_option maxRecDepth 20000
set_option linter.unusedSimpArgs false
set_option linter.unusedVariables false
namespace Go.Cb.CodeA
open Go Go.Cb
open Nat renaming reduceAdd→rA,reduceSub→rS,reduceLeDiff→rL,reduceEqDiff→rE
attribute [local congr] i7 j1 j2 j3 j0 i8 k6 j9 V.runR_congr
abbrev VF:=TRef→Val→List Sel→List (List Nat)→RS→Val×RS
abbrev a2P:=(Val×Bool)×RS
def y9 (V:VF) (t:TRef) (v:Val) (fs:List Sel) (path:List (List Nat)) (s:RS):a2P:=match V t v fs path s with
 | (out,s2)=>if eqI out.kind 0 && t.bang then ((Val.none,false),if s2.ps.length=s.ps.length then s2.prob path 9 else s2) else ((out,true),s2)
def B0 (V:VF) (t:TRef) (fs:List Sel) (path:List (List Nat)):List Val→Nat→List Val→RS→Val×RS
 | [],_,acc,s=>(.mk 5 0 [] [] acc,s)
 | x::xs,i,acc,s=>if s.step.steps≤5000 then (match y9 V t x fs (path++[H1 (i:Int)]) s.step with|((y,ok),s2)=>if ok then B0 V t fs path xs (i+1) (acc++[y]) s2 else (Val.none,s2)) else (Val.none,s.step)
def J3 (n:List Nat):Val:=.mk 8 0 n [] []
def N1:List Nat:=[95,95,116,121,112,101,110,97,109,101]
def j5:List Nat:=[81,117,101,114,121]
def idN:List Nat:=[105,100]
def U4:List Sel→List Arg
 | []=>[]
 | x::_=>x.as
def R3:List Sel→List Nat
 | []=>[]
 | x::_=>x.nm
def m8 (E:REnv) (V:VF) (typ:List Nat) (x:Ent) (f:FDef) (fs:List Sel) (path:List (List Nat)) (s:RS):a2P :=
 if eqN f.n N1 then ((.mk 2 0 typ [] [],true),s)
 else if !eqN typ j5 then y9 V f.t (atK 6 x.ks x.ls f.n) fs path s
 else if f.ar.isEmpty then y9 V f.t (.mk 5 0 [] [] ((E.es.filter fun y=>l6 (E.poss f.t.bs) y.t).map fun y=>J3 y.id)) fs path (E.know s f.t.bs)
 else match E.args f (U4 fs) with
  | (a,e)=>if eqI e 0 then y9 V f.t (J3 (atK a.kind a.names a.vals idN).text) fs path (E.know s f.t.bs) else ((Val.none,true),(E.know s f.t.bs).prob path e)
def u9 (E:REnv) (V:VF) (typ:List Nat) (x:Ent) (path:List (List Nat)):List (List Nat×List Sel)→List (List Nat)→List Val→RS→a2P
 | [],ks,ls,s=>((.mk 6 0 [] ks ls,true),s)
 | (key,fs)::gs,ks,ls,s=>match E.fld typ (R3 fs) with
  | none=>u9 E V typ x path gs ks ls s
  | some f=>if s.step.steps≤5000 then (match m8 E V typ x f fs (path++[key]) s.step with|((v,ok),s2)=>if ok then u9 E V typ x path gs (ks++[key]) (ls++[v]) s2 else ((Val.none,false),s2)) else ((Val.none,false),s.step)
def a0G (E:REnv) (n:List Nat) (v:Val):Bool:=if eqN n [73,68] then eqI v.kind 2 else E.fits n v
def valF (E:REnv):Nat→VF
 | 0,_,_,_,_,s=>(Val.none,s)
 | n+1,t,v,fs,path,s=>if eqI v.kind 0 then (v,s) else match t with
  | .wrap u _=>if eqI v.kind 5 then B0 (valF E n) u fs path v.vals 0 [] s else (Val.none,s.prob path 8)
  | .base nm _=>if E.leaf nm then (if a0G E nm v then (v,s) else (Val.none,s.prob path 8))
   else if eqI v.kind 8 then (match a0x E.es v.text with
    | none=>(Val.none,E.know s nm)
    | some x=>if l6 (E.poss nm) x.t then (match u9 E (valF E n) x.t x path (E.grp x.t (m2 fs)) [] [] (E.know s nm) with|((v,_),s2)=>(v,s2)) else (Val.none,E.know s nm))
   else (Val.none,s.prob path 8)
inductive Val.Rng:Val→Prop
 | mk (k n:Int) (s:List Nat) (ks:List (List Nat)) (ls:List Val) (hn:-9223372036854775808≤n∧n≤9223372036854775807) (h:∀ v∈ls,Val.Rng v):Val.Rng (.mk k n s ks ls)
inductive Sel.Rg:Sel→Prop
 | mk (k:Int) (al nm on:List Nat) (as:List Arg) (ds:List Dir) (sub:List Sel) (ha:∀ a∈as,a.v.Rng) (h:∀ s∈sub,Sel.Rg s):Sel.Rg (.mk k al nm on as ds sub)
theorem c4U {fs:List Sel} (h:∀ s∈fs,s.Rg):∀ s∈m2 fs,s.Rg:=fun s hs=>by
 obtain ⟨f,hf,hs⟩:=List.mem_flatMap.1 hs
 have:=h f hf
 cases this
 rename_i h2
 exact h2 s hs
structure SelX (N:Nat) (l:List Sel):Prop where
 ok:∀ s∈l,s.OK
 rg:∀ s∈l,s.Rg
 sz:sizes l≤N
def a1S (x:Ent):Prop:=x.ks.length=x.ls.length∧x.ks.length≤6∧∀ v∈x.ls,VX v
structure REnv.OK (E:REnv) (B:St):Prop where
 ents:EntsAt E.v E.es B
 sorted:K6 E.es
 esl:E.es.length≤1000
 good:∀ e∈E.es,a1S e
 tvw:E.tv.weak1=E.tv∧E.tv.plain=true∧E.tv.weak=E.tv
 fld:∀ st,Gr B st→∀ typ n,EvQ tbl 84 [.ptr E.so 0,.str typ,.str n] st (fun a st'=>st'=st∧a=.tuple [.agg ((E.fld typ n).getD FDef.none).row,.bool (E.fld typ n).isSome])
 grp:∀ st,Gr B st→∀ typ l,SelX 11000000 l→EvQ tbl 83 [.ptr E.so 0,.agg [.list false E.ops,.list false E.frs],.str typ,.list false (l.map Sel.row),.agg E.vars] st (fun a st'=>Gr st st'∧∃ out gs,a=out.weak∧GrpS st.length st' out gs∧gs.map Grp.pr=E.grp typ l)
 grpx:∀ typ l N,SelX N l→∀ g∈E.grp typ l,g.2≠[]∧SelX (N+2001) g.2
 grpl:∀ typ l,SelX 11000000 l→(E.grp typ l).length≤90000000
 poss:∀ st,Gr B st→∀ n,EvQ tbl 42 [.ptr E.so 0,.str n] st (fun a st'=>st'=st∧a=.list false ((E.poss n).map e8))
 possl:∀ n,(E.poss n).length≤100000000
 leaf:∀ st,Gr B st→∀ n,EvQ tbl 192 [.ptr E.so 0,.str n] st (fun a st'=>st'=st∧a=.bool (E.leaf n))
 fits:∀ st,Gr B st→∀ n v,VX v→EvQ tbl 146 [.ptr E.so 0,.agg [.str n,.list false [],.bool false],.agg v.row] st (fun a st'=>Gr st st'∧a=.bool (E.fits n v))
 knows:∀ st,Gr B st→∀ n,EvQ tbl 19 [.agg [E.v,.bool E.whole,E.tv],.ptr E.so 0,.str n] st (fun a st'=>Gr st st'∧a=.bool (E.knows n))
 args:∀ st,Gr B st→∀ n f,E.fld j5 n=some f→f.ar.isEmpty=false→∀ as,ArgsOK as→(∀ a∈as,a.v.Rng)→EvQ tbl 135 [.ptr E.so 0,.agg f.row,.list false (as.map Arg.row),.agg E.vars] st (fun a st'=>Gr st st'∧∃ s,a=.tuple [.agg (E.args f as).1.row,.str s,.int .i64 (E.args f as).2])
 argsx:∀ f as,(E.args f as).1.names.length≤100000000∧((E.args f as).1.kind=6→(E.args f as).1.names.length=(E.args f as).1.vals.length)
structure Goes (E:REnv) (B:St) (s:RS) (pv:AV) (st:St) (s2:RS) (st':St) (pv':AV):Prop where
 run:RunAt E B s2 pv' st'
 rk:RK B pv st pv' st'
 steps:s.steps≤s2.steps
 few:s2.ps.length≤2*s2.steps
 more:s.ps.length≤s2.ps.length
def c1E (E:REnv) (B:St) (s:RS) (pv:AV) (st:St) (r:Val×RS) (a:AV) (st':St):Prop:=∃ pv',a=.agg r.1.row∧Goes E B s pv st r.2 st' pv'
def b6n (E:REnv) (B:St) (s:RS) (pv:AV) (st:St) (r:a2P) (a:AV) (st':St):Prop:=∃ pv',a=.tuple [.agg r.1.1.row,.bool r.1.2]∧Goes E B s pv st r.2 st' pv'
structure FsAt (B:St) (pv:AV) (st:St) (fo:Nat) (fs:List Sel) (N:Nat):Prop where
 at_:st[fo]?=some (.cells (o9 fs))
 ne:fo≠B.length∧B8 pv≠some fo
 x:fs≠[]∧SelX N fs
theorem FsAt.keep {B:St} {pv pv':AV} {st st':St} {fo:Nat} {fs:List Sel} {N M:Nat} (h:FsAt B pv st fo fs N) (hk:RK B pv st pv' st') (hM:N≤M):FsAt B pv' st' fo fs M:=by
 refine ⟨hk.keep fo _ h.ne.1 h.ne.2 h.at_,⟨h.ne.1,fun hr=>?_⟩,h.x.1,h.x.2.ok,h.x.2.rg,Nat.le_trans h.x.2.sz hM⟩
 rcases hk.pv with e|e
 · rw [e] at hr; exact h.ne.2 hr
 · have:=e fo hr
   have:=(AB.1 h.at_).1
   omega
theorem PAt.len {b:Nat} {pv:AV} {ps:List (List (List Nat)×Int)} {st:St} (h:PAt b pv ps st):∀ (call:d8) (bx:AV) (st:St),C2 call [pv] bx st=some (.int .i64 ps.length,bx,st):=fun call bx st=>by
 rcases h with ⟨rfl,rfl⟩|⟨o,_,rfl,_⟩ <;> rfl
theorem c8W (a b:Nat):eqI (a:Int) (b:Int)=decide (a=b):=c66 a b
theorem a0B {E:REnv} {B:St} {s:RS} {pv:AV} {st:St} (h:RunAt E B s pv st) {t:TRef} {v:Val} {fs:List Sel} {fo:Nat} {key:List Nat} {path:List (List Nat)} (hp:path≠[]) (hpl:path.length≤s.steps) (hfew:s.ps.length+2≤2*s.steps) (V:VF)
 (hV:EvQ tbl 174 [.ptr B.length 0,.agg t.row,.agg v.row,.agg [.str key,.sl fo 0 fs.length 7],.list false (path.map e8)] st (c1E E B s pv st (V t v fs path s))) :
 EvQ tbl 133 [.ptr B.length 0,.agg t.row,.agg v.row,.agg [.str key,.sl fo 0 fs.length 7],.list false (path.map e8)] st (b6n E B s pv st (y9 V t v fs path s)):=by
 have hob:=h.ob
 have hle:=h.le
 have hlen:=h.pr.len
 obtain ⟨w1,w2,w3,w4,w5,w6,w7⟩:=h.pr.wk
 unfold F4 at hob
 rw [t.row_eta,v.row_eta] at *
 unfold y9
 revert hV
 generalize V t v fs path s=r
 obtain ⟨out,s2⟩:=r
 intro hV
 dsimp only
 refine EvQ.body (fn:=a133) rfl rfl rfl ?_
 simp +contextual -implicitDefEqProofs only [a5R,SS,rA,rS,rL,rE,reduceCtorEq,hob,hlen,w1,w2,w3,w4,w5,w6,w7]
 refine WC.call hV rfl rfl ?_
 rintro _ st2 ⟨pv2,rfl,hG⟩
 have hob2:=hG.run.ob
 have hlen2:=hG.run.pr.len
 have hle2:=hG.run.le
 have hmore:=hG.more
 have hst:=hG.steps
 obtain ⟨x1,x2,x3,x4,x5,x6,x7⟩:=hG.run.pr.wk
 unfold F4 at hob2
 dsimp only at hob2 hlen2 hle2 hmore hst
 rw [out.row_eta]
 rcases e9 (eqI out.kind 0 && t.bang) with hc|hc
 · rw [if_pos hc]
   rw [AA] at hc
   simp +contextual -implicitDefEqProofs only [a5R,SS,rA,rS,rL,rE,reduceCtorEq,hc.1,hc.2,hob2,hlen2,c8W,x1,x2,x3,x4,x5,x6,x7]
   by_cases he:s2.ps.length=s.ps.length
   · rw [if_pos he]
     simp +contextual -implicitDefEqProofs only [a5R,SS,rA,rS,rL,rE,reduceCtorEq,he,decide_true]
     refine WC.call (a1J hG.run hp (by omega) (by dsimp only; omega) 9) rfl rfl ?_
     rintro _ st3 ⟨pv3,hr3,hk3⟩
     simp +contextual -implicitDefEqProofs only [a5R,SS,rA,rS,rL,rE,reduceCtorEq]
     refine WC.ret ⟨_,_,rfl,pv3,by rw [Val.none_row]; rfl,hr3,hG.rk.trans hk3,hst,?_,?_⟩
     · show (s2.ps++[(path,9)]).length≤2*s2.steps
       simp; omega
     · show s.ps.length≤(s2.ps++[(path,9)]).length
       simp; omega
   · rw [if_neg he]
     simp +contextual -implicitDefEqProofs only [a5R,SS,rA,rS,rL,rE,reduceCtorEq,decide_eq_false he]
     exact WC.ret ⟨_,_,rfl,pv2,by rw [Val.none_row]; rfl,hG⟩
 · rw [hc,if_neg (by decide)]
   rcases e9 (eqI out.kind 0) with h0|h0
   · rw [h0,Bool.true_and] at hc
     simp +contextual -implicitDefEqProofs only [a5R,SS,rA,rS,rL,rE,reduceCtorEq,h0,hc]
     exact WC.ret ⟨_,_,rfl,pv2,by rw [out.row_eta]; rfl,hG⟩
   · simp +contextual -implicitDefEqProofs only [a5R,SS,rA,rS,rL,rE,reduceCtorEq,h0]
     exact WC.ret ⟨_,_,rfl,pv2,by rw [out.row_eta]; rfl,hG⟩
end Go.Cb.CodeA
set_option maxRecDepth 20000
set_option linter.unusedSimpArgs false
set_option linter.unusedVariables false
namespace Go.Cb.CodeA
open Go Go.Cb
open Nat renaming reduceAdd→rA,reduceSub→rS,reduceLeDiff→rL,reduceEqDiff→rE
attribute [local congr] i7 j1 j2 j3 j0 i8 k6 j9 V.runR_congr
def b10 (E:REnv) (B:St) (n:Nat):Prop:=∀ {s:RS} {pv:AV} {st:St},RunAt E B s pv st→∀ {t:TRef} {v:Val} {fs:List Sel} {fo:Nat} {key:List Nat} {path:List (List Nat)},VX v→FsAt B pv st fo fs (2001*(s.steps+1))→path≠[]→path.length≤s.steps→s.ps.length+2≤2*s.steps→5001 < n+s.steps →
 EvQ tbl 174 [.ptr B.length 0,.agg t.row,.agg v.row,.agg [.str key,.sl fo 0 fs.length 7],.list false (path.map e8)] st (c1E E B s pv st (valF E n t v fs path s))
theorem Ent.Good.x {x:Ent} (h:x.Good):a1S x:=⟨h.kl,h.le,fun v hv=>(h.sm v hv).vx⟩
def c7C (E:REnv) (B:St) (n:Nat):Prop:=∀ {s:RS} {pv:AV} {st:St},RunAt E B s pv st→∀ {typ:List Nat} {x:Ent} {l:List Sel} {path:List (List Nat)},a1S x→SelX (2001*(s.steps+1)) l→path.length≤s.steps→s.ps.length≤2*s.steps→5001 < n+s.steps+1 →
 EvQ tbl 39 [.ptr B.length 0,.str typ,.agg x.row,.list false (l.map Sel.row),.list false (path.map e8)] st (b6n E B s pv st (u9 E (valF E n) typ x path (E.grp typ l) [] [] s))
theorem c6m {E:REnv} {B:St} (hE:E.OK B) {s:RS} {pv:AV} {st:St} (h:RunAt E B s pv st) (n:List Nat) {v:Val} (hv:VX v):EvQ tbl 193 [.ptr B.length 0,.str n,.agg v.row] st (fun a st'=>Gr st st'∧a=.bool (a0G E n v)):=by
 have hob:=h.ob
 have hf:=hE.fits st h.gr n v hv
 unfold F4 at hob
 rw [v.row_eta] at *
 unfold a0G
 refine EvQ.body (fn:=a193) rfl rfl rfl ?_
 simp +contextual -implicitDefEqProofs only [b5l,SS,rA,rS,rL,rE,reduceCtorEq]
 refine WC.br (fun hc=>?_) (fun hc=>?_)
 · rw [if_pos hc]
   simp +contextual -implicitDefEqProofs only [b5l,SS,rA,rS,rL,rE,reduceCtorEq]
   exact WC.ret ⟨_,_,rfl,Gr.refl _,rfl⟩
 · rw [show eqN n [73,68]=false from hc,if_neg (by decide)]
   simp +contextual -implicitDefEqProofs only [b5l,SS,rA,rS,rL,rE,reduceCtorEq,hob]
   refine WC.call hf rfl rfl ?_
   rintro _ st2 ⟨hg,rfl⟩
   simp +contextual -implicitDefEqProofs only [b5l,SS,rA,rS,rL,rE,reduceCtorEq]
   exact WC.ret ⟨_,_,rfl,hg,rfl⟩
theorem VX.vals {v:Val} (h:VX v):v.vals.length≤100000∧(∀ u∈v.vals,VX u)∧v.names=[]∧v.kind≠6:=by
 obtain ⟨k,n,s,ls,rfl,h2,h3,h4⟩:=h
 exact ⟨h3,fun u hu=>by obtain ⟨k,n,s,rfl,hk⟩:=h4 u hu; exact VX.one hk,rfl,h2⟩
theorem Goes.refl {E:REnv} {B:St} {s:RS} {pv:AV} {st:St} (h:RunAt E B s pv st) (hf:s.ps.length≤2*s.steps):Goes E B s pv st s st pv:=⟨h,RK.refl _ _ _,AJ _,hf,AJ _⟩
theorem Goes.trans {E:REnv} {B:St} {s s1 s2:RS} {pv pv1 pv2:AV} {st st1 st2:St} (h:Goes E B s pv st s1 st1 pv1) (h2:Goes E B s1 pv1 st1 s2 st2 pv2):Goes E B s pv st s2 st2 pv2:=⟨h2.run,h.rk.trans h2.rk,Nat.le_trans h.steps h2.steps,h2.few,Nat.le_trans h.more h2.more⟩
theorem Goes.grow {E:REnv} {B:St} {s s1:RS} {pv pv1:AV} {st st1 st2:St} (h:Goes E B s pv st s1 st1 pv1) (hg:Gr st1 st2):Goes E B s pv st s1 st2 pv1:=⟨h.run.grow hg,h.rk.trans (RK.of_gr hg hg.len),h.steps,h.few,h.more⟩
theorem RS.step_le (s:RS):s.steps≤s.step.steps∧s.step.steps≤s.steps+1∧(s.step.steps≤5000→s.step.steps=s.steps+1):=by
 unfold RS.step
 dsimp only
 split <;> omega
theorem a9v {E:REnv} {B:St} {s:RS} {pv:AV} {st st':St} (hf:s.ps.length≤2*s.steps) (h1:RunAt E B s.step pv st') (h2:RK B pv st pv st'):Goes E B s pv st s.step st' pv :=
 ⟨h1,h2,s.step_le.1,by have:=s.step_le.1; show s.ps.length≤_; omega,AJ _⟩
theorem a1y {E:REnv} {B:St} {s:RS} {pv:AV} {st:St} {path:List (List Nat)} {e:Int} {pv':AV} {st':St} (hf:s.ps.length+1≤2*s.steps) (h1:RunAt E B (s.prob path e) pv' st') (h2:RK B pv st pv' st'):Goes E B s pv st (s.prob path e) st' pv' :=
 ⟨h1,h2,AJ _,by show (s.ps++[(path,e)]).length≤2*s.steps; simp; omega,by show s.ps.length≤(s.ps++[(path,e)]).length; simp⟩
theorem a9O {E:REnv} {B:St} {s:RS} {pv:AV} {st st2:St} (h:RunAt E B s pv st) (hf:s.ps.length≤2*s.steps) (hg:Gr st st2) (nm:List Nat) :
 ∃ st3,Goes E B s pv st (E.know s nm) st3 pv∧st3=if E.knows nm then st2 else st2.set B.length (.cells [.ptr E.so 0,.list false E.ops,.list false E.frs,E.v,.bool E.whole,E.tv,.int .u8 E.vk,.int .i64 E.vn,.str E.vs,.list false E.vks,.list false E.vls,pv,.bool true,.int .i64 s.steps]):=by
 have hG:=(Goes.refl h hf).grow hg
 rcases e9 (E.knows nm) with hkn|hkn
 · exact ⟨_,by rw [REnv.know,if_pos hkn]; exact hG,by rw [if_pos hkn]⟩
 · refine ⟨_,?_,by rw [hkn,if_neg (by decide)]⟩
   obtain ⟨a1,a2⟩:=hG.run.put (s':=⟨s.ps,true,s.steps⟩) rfl h.le
   rw [REnv.know,hkn,if_neg (by decide)]
   exact hG.trans ⟨a1,a2,AJ _,hG.few,AJ _⟩
theorem b4m (E:REnv) (s:RS) (nm:List Nat):(E.know s nm).steps=s.steps∧(E.know s nm).ps=s.ps:=by unfold REnv.know; split <;> exact ⟨rfl,rfl⟩
theorem b74 (s:List Nat) (ks:List (List Nat)):ks.map e8++[[.str s]]=(ks++[s]).map e8:=by rw [AU]; rfl
theorem b9H {E:REnv} {B:St} (hE:E.OK B) {n:Nat} (ihV:b10 E B n) (ihO:c7C E B n):b10 E B (n+1):=by
 intro s pv st h t v fs fo key path hv hfs hp hpl hfew hfuel
 have hob:=h.ob
 have hle:=h.le
 obtain ⟨hvl,hvv,hvn,hv6⟩:=hv.vals
 obtain ⟨w1,w2,w3,w4,w5,w6,w7⟩:=h.pr.wk
 unfold F4 at hob
 rw [valF.eq_def]
 dsimp only
 have hpr:=fun e=>a1J h hp (by omega) (by omega) e
 have bad:∀ {P:AV×St→Prop},True:=trivial
 rw [t.row_eta,v.row_eta]
 refine EvQ.body (fn:=a174) rfl rfl rfl ?_
 simp +contextual -implicitDefEqProofs only [A0,SS,rA,rS,rL,rE,reduceCtorEq]
 rcases e9 (eqI v.kind 0) with h0|h0
 · rw [if_pos h0]
   simp +contextual -implicitDefEqProofs only [A0,SS,rA,rS,rL,rE,reduceCtorEq,h0]
   exact WC.ret ⟨_,_,rfl,pv,by rw [v.row_eta]; rfl,Goes.refl h (by omega)⟩
 rw [h0,if_neg (by decide)]
 cases t with
 | wrap u b =>
  dsimp only
  simp +contextual -implicitDefEqProofs only [A0,SS,rA,rS,rL,rE,reduceCtorEq,h0,TRef.nm,TRef.of,TRef.bang,AX,List.length_nil,show ltI 0 (((0+1:Nat)):Int)=true from rfl]
  rcases e9 (eqI v.kind 5) with h5|h5
  · rw [if_pos h5]
    simp +contextual -implicitDefEqProofs only [A0,SS,rA,rS,rL,rE,reduceCtorEq,h5,Bool.not_true,AF]
    generalize hX0:B0 (valF E n) u fs path v.vals 0 [] s=R
    refine WC.loopR (fun mm fr st'=>∃ (i:Nat) (acc:List Val) (s1:RS) (pv1 v10 v11 v12 v13:AV),i≤v.vals.length∧mm=v.vals.length - i∧acc.length≤i∧Goes E B s pv st s1 st' pv1∧R=B0 (valF E n) u fs path (v.vals.drop i) i acc s1 ∧
     fr=[.ptr B.length 0,.agg [.str [],.list false [u.row],.bool b],.agg [.int .u8 v.kind,.int .i64 v.num,.str v.text,.list false (v.names.map e8),.list false (v.vals.map Val.row)],.agg [.str key,.sl fo 0 fs.length 7],.list false (path.map e8),.box [.str [],.list false [u.row],.bool b],
      .box [.int .u8 v.kind,.int .i64 v.num,.str v.text,.list false (v.names.map e8),.list false (v.vals.map Val.row)],.box [.str key,.sl fo 0 fs.length 7],.box [.int .u8 0,.int .i64 0,.str [],.list true [],.list true []],.box [.int .u8 5,.int .i64 0,.str [],.list true [],.list true (acc.map Val.row)],v10,v11,v12,v13,.undef,.undef,.undef,.list false (v.vals.map Val.row),.int .i64 v.vals.length,.int .i64 i])
     (m:=v.vals.length) ⟨0,[],s,pv,_,_,_,_,Nat.zero_le _,rfl,AJ _,Goes.refl h (by omega),hX0.symm,rfl⟩ ?_
    rintro mm fr st1 ⟨i,acc,s1,pv1,v10,v11,v12,v13,hi,rfl,hacc,hG,hX,rfl⟩
    simp +contextual -implicitDefEqProofs only [A0,SS,rA,rS,rL,rE,reduceCtorEq,ltN]
    by_cases hil:i < v.vals.length
    rotate_left
    · rw [List.drop_of_length_le (by omega),B0] at hX
      simp +contextual -implicitDefEqProofs only [A0,SS,rA,rS,rL,rE,reduceCtorEq,hil]
      refine WC.leave ?_
      simp +contextual -implicitDefEqProofs only [A0,SS,rA,rS,rL,rE,reduceCtorEq]
      exact WC.ret ⟨_,_,rfl,pv1,by rw [hX,Val.row_eq]; rfl,hX ▸ hG⟩
    have e2:=b1s hil
    have hx:=hvv _ (List.getElem_mem hil)
    rw [List.drop_eq_getElem_cons hil,B0] at hX
    revert e2 hx hX
    generalize v.vals[i]=x
    intro hX e2 hx
    have hi5:i≤100000:=by omega
    rw [x.row_eta] at e2
    have hst:=hG.steps
    have hrle:=hG.run.le
    have hsl:=s1.step_le
    simp +contextual -implicitDefEqProofs only [A0,SS,rA,rS,rL,rE,reduceCtorEq,hil,e2]
    refine WC.call (b7K hG.run) rfl rfl ?_
    rintro _ st2 ⟨rfl,hr2,hk2⟩
    have hG2:=a9v hG.few hr2 hk2
    by_cases c:s1.step.steps≤5000
    rotate_left
    · rw [if_neg c] at hX
      simp +contextual -implicitDefEqProofs only [A0,SS,rA,rS,rL,rE,reduceCtorEq,decide_eq_false c,Bool.not_false]
      refine WC.leaveR ?_
      simp +contextual -implicitDefEqProofs only [A0,SS,rA,rS,rL,rE,reduceCtorEq]
      exact WC.ret ⟨_,_,rfl,pv1,by rw [hX,Val.none_row]; rfl,hX ▸ hG.trans hG2⟩
    rw [if_pos c] at hX
    have hcl:=a5y path (by omega) st2
    have hr1:l3 1 (path.map e8)=true:=a4u path
    have g1:((path.map e8).length+1)*16≤2 ^ 47:=by rw [AF]; omega
    have hfs2:=hfs.keep (hG.rk.trans hk2) (M:=2001*(s1.step.steps+1)) (by have:=hsl.1; omega)
    have hfw:=hG.few
    have hcq:=a0B hr2 (t:=u) (v:=x) (fs:=fs) (fo:=fo) (key:=key) (path:=path++[H1 (i:Int)]) (by simp) (by simp; omega) (by show s1.ps.length+2≤_; omega) (valF E n) (ihV hr2 hx hfs2 (by simp) (by simp; omega) (by show s1.ps.length+2≤_; omega) (by omega))
    revert hcq hX
    generalize y9 (valF E n) u x fs (path++[H1 (i:Int)]) s1.step=r
    obtain ⟨⟨y,ok⟩,s2⟩:=r
    intro hX hcq
    dsimp only at hX
    rw [u.row_eta,x.row_eta,← b74] at hcq
    simp +contextual -implicitDefEqProofs only [A0,SS,rA,rS,rL,rE,reduceCtorEq,decide_eq_true c,Bool.not_true,u.row_eta,List.getElem?_cons_zero]
    refine WC.call hcl rfl rfl ?_
    rintro _ st2 ⟨rfl,rfl⟩
    simp +contextual -implicitDefEqProofs only [A0,SS,rA,rS,rL,rE,reduceCtorEq]
    refine WC.call (c7y i (by omega) st2) rfl rfl ?_
    rintro _ st2 ⟨rfl,rfl⟩
    simp +contextual -implicitDefEqProofs only [A0,SS,rA,rS,rL,rE,reduceCtorEq,hr1,g1]
    refine WC.call hcq rfl rfl ?_
    rintro _ st3 ⟨pv3,rfl,hG3⟩
    dsimp only at hG3
    rw [y.row_eta]
    have hGG:=(hG.trans hG2).trans hG3
    cases ok with
    | false =>
     rw [if_neg (by decide)] at hX
     simp +contextual -implicitDefEqProofs only [A0,SS,rA,rS,rL,rE,reduceCtorEq]
     refine WC.leaveR ?_
     simp +contextual -implicitDefEqProofs only [A0,SS,rA,rS,rL,rE,reduceCtorEq]
     exact WC.ret ⟨_,_,rfl,pv3,by rw [hX,Val.none_row]; rfl,hX ▸ hGG⟩
    | true =>
     rw [if_pos rfl] at hX
     have hr5:l3 5 (acc.map Val.row)=true:=a0U acc
     have g5:((acc.map Val.row).length+1)*80≤2 ^ 47:=by rw [AF]; omega
     simp +contextual -implicitDefEqProofs only [A0,SS,rA,rS,rL,rE,reduceCtorEq,hr5,g5,s9 (show i+1 < 2 ^ 63 by omega)]
     exact WC.next (m':=v.vals.length - (i+1)) (by omega) ⟨i+1,acc++[y],s2,pv3,_,_,_,_,hil,rfl,by simp; omega,hGG,hX,by rw [AU,AG,AL,y.row_eta]⟩
  · rw [h5,if_neg (by decide)]
    simp +contextual -implicitDefEqProofs only [A0,SS,rA,rS,rL,rE,reduceCtorEq,h5,Bool.not_false]
    refine WC.call (hpr 8) rfl rfl ?_
    rintro _ st2 ⟨pv2,h2,hk2⟩
    simp +contextual -implicitDefEqProofs only [A0,SS,rA,rS,rL,rE,reduceCtorEq]
    exact WC.ret ⟨_,_,rfl,pv2,by rw [Val.none_row]; rfl,a1y (by omega) h2 hk2⟩
 | base nm b =>
  dsimp only
  simp +contextual -implicitDefEqProofs only [A0,SS,rA,rS,rL,rE,reduceCtorEq,h0,TRef.nm,TRef.of,TRef.bang,List.length_nil,show ltI 0 ((0:Nat):Int)=false from rfl,hob]
  refine WC.call (hE.leaf st h.gr nm) rfl rfl ?_
  rintro _ st ⟨rfl,rfl⟩
  rcases e9 (E.leaf nm) with hl|hl
  · rw [if_pos hl]
    have hq:=c6m hE h nm hv
    rw [v.row_eta] at hq
    simp +contextual -implicitDefEqProofs only [A0,SS,rA,rS,rL,rE,reduceCtorEq,hl]
    refine WC.call hq rfl rfl ?_
    rintro _ st2 ⟨hg,rfl⟩
    have hG:=(Goes.refl h (by omega)).grow hg
    rcases e9 (a0G E nm v) with hb|hb
    · rw [if_pos hb]
      simp +contextual -implicitDefEqProofs only [A0,SS,rA,rS,rL,rE,reduceCtorEq,hb,Bool.not_true]
      exact WC.ret ⟨_,_,rfl,pv,by rw [v.row_eta]; rfl,hG⟩
    · rw [hb,if_neg (by decide)]
      simp +contextual -implicitDefEqProofs only [A0,SS,rA,rS,rL,rE,reduceCtorEq,hb,Bool.not_false]
      refine WC.call (a1J hG.run hp (by omega) (by omega) 8) rfl rfl ?_
      rintro _ st3 ⟨pv2,h2,hk2⟩
      simp +contextual -implicitDefEqProofs only [A0,SS,rA,rS,rL,rE,reduceCtorEq]
      exact WC.ret ⟨_,_,rfl,pv2,by rw [Val.none_row]; rfl,hG.trans (a1y (by omega) h2 hk2)⟩
  rw [hl,if_neg (by decide)]
  simp +contextual -implicitDefEqProofs only [A0,SS,rA,rS,rL,rE,reduceCtorEq,hl]
  rcases e9 (eqI v.kind 8) with h8|h8
  rotate_left
  · rw [h8,if_neg (by decide)]
    simp +contextual -implicitDefEqProofs only [A0,SS,rA,rS,rL,rE,reduceCtorEq,h8,Bool.not_false]
    refine WC.call (hpr 8) rfl rfl ?_
    rintro _ st2 ⟨pv2,h2,hk2⟩
    simp +contextual -implicitDefEqProofs only [A0,SS,rA,rS,rL,rE,reduceCtorEq]
    exact WC.ret ⟨_,_,rfl,pv2,by rw [Val.none_row]; rfl,a1y (by omega) h2 hk2⟩
  rw [if_pos h8]
  obtain ⟨t1,t2,t3⟩:=hE.tvw
  obtain ⟨y1,y2,y3,y4,y5,y6,y7⟩:=hE.ents.wk
  have pl:(AV.agg [E.v,.bool E.whole,E.tv]).plain=true:=rfl
  simp +contextual -implicitDefEqProofs only [A0,SS,rA,rS,rL,rE,reduceCtorEq,h8,Bool.not_true,hob,t1,t2,t3,y1,y2,y3,y4,y5,y6,y7]
  refine WC.call (hE.knows st h.gr nm) (by simp only [R.allPlain_c,R.allPlain_n,R.plain_agg]; rfl) (by simp only [AG,AL,O3,t1,y2]; rfl) ?_
  rintro _ st2 ⟨hg,rfl⟩
  have hG:=(Goes.refl h (by omega)).grow hg
  have hst2:=a9O h (by omega) hg nm
  obtain ⟨st3,hG3,hst3⟩:=hst2
  have hob2:=hG.run.ob
  unfold F4 at hob2
  obtain ⟨es,ep⟩:=b4m E s nm
  revert hst3
  have hob3:=hG3.run.ob
  have hfs3:=hfs.keep hG3.rk (M:=2001*((E.know s nm).steps+1)) (by rw [es]; exact AJ _)
  have hgr3:=hG3.run.gr
  have hents:EntsAt E.v E.es st3:=hE.ents.gr hgr3
  have hget:=b5g hents hE.sorted (by have:=hE.esl; omega) v.text
  have hgood:∀ e,a0x E.es v.text=some e→a1S e:=fun e he=>hE.good e (a3u he).1
  have hsub:=d2j hfs3.x.2.ok (by have:=hfs3.x.2.sz; omega) hfs3.at_ key
  have hobj:=fun (x:Ent) (hx:a1S x)=>ihO hG3.run (typ:=x.t) (x:=x) (l:=m2 fs) (path:=path) hx ⟨c4n hfs3.x.2.ok,c4U hfs3.x.2.rg,Nat.le_trans (a0H fs) hfs3.x.2.sz⟩ (by omega) (by rw [ep,es]; omega) (by omega)
  have hfin:∀ r:a2P,∀ st4 pv4,Goes E B (E.know s nm) pv st3 r.2 st4 pv4→Goes E B s pv st r.2 st4 pv4:=fun r st4 pv4 h=>hG3.trans h
  unfold F4 at hob3
  rcases e9 (E.knows nm) with hkn|hkn <;> rw [hkn] <;> intro hst3
  rw [if_pos rfl] at hst3
  rotate_left
  rw [if_neg (by decide)] at hst3
  all_goals
   simp +contextual -implicitDefEqProofs only [A0,SS,rA,rS,rL,rE,reduceCtorEq,Bool.not_true,Bool.not_false,hob2]
   rw [← hst3]
   clear hst3
  all_goals
   simp +contextual -implicitDefEqProofs only [A0,SS,rA,rS,rL,rE,reduceCtorEq,hob3,y1,y2,y3,y4,y5,y6,y7]
   refine WC.call hget (by simp only [R.allPlain_c,R.allPlain_n,R.plain_agg]; rfl) (by simp only [AG,AL,O3,y2]; rfl) ?_
   rintro _ st3 ⟨rfl,rfl⟩
   revert hgood
   cases hge:a0x E.es v.text with
   | none =>
    intro _
    rw [Option.getD_none]
    simp +contextual -implicitDefEqProofs only [A0,SS,rA,rS,rL,rE,reduceCtorEq,Ent.none,Ent.row,AL,Option.isSome_none,Bool.not_false]
    exact WC.ret ⟨_,_,rfl,pv,by rw [Val.none_row]; rfl,hG3⟩
   | some x =>
    intro hgood
    have hgx:=hgood x rfl
    have hox:=hobj x hgx
    have ex:x.row=[.str x.t,.str x.id,.list false (x.ks.map e8),.list false (x.ls.map Val.row)]:=rfl
    rw [Option.getD_some,ex]
    rw [ex] at hox
    dsimp only
    simp +contextual -implicitDefEqProofs only [A0,SS,rA,rS,rL,rE,reduceCtorEq,Option.isSome_some,Bool.not_true,hob3]
    refine WC.call (hE.poss _ hgr3 nm) rfl rfl ?_
    rintro _ st3 ⟨rfl,rfl⟩
    simp +contextual -implicitDefEqProofs only [A0,SS,rA,rS,rL,rE,reduceCtorEq]
    refine WC.call (I0 (E.poss nm) (hE.possl nm) x.t _) rfl rfl ?_
    rintro _ st3 ⟨rfl,rfl⟩
    rcases e9 (l6 (E.poss nm) x.t) with hh|hh
    · rw [if_pos hh]
      simp +contextual -implicitDefEqProofs only [A0,SS,rA,rS,rL,rE,reduceCtorEq,hh,Bool.not_true]
      refine WC.call hsub rfl rfl ?_
      rintro _ st3 ⟨rfl,rfl⟩
      simp +contextual -implicitDefEqProofs only [A0,SS,rA,rS,rL,rE,reduceCtorEq]
      refine WC.call hox rfl rfl ?_
      rintro _ st4 ⟨pv4,rfl,hG4⟩
      have hG5:=hG3.trans hG4
      revert hG5
      generalize u9 E (valF E n) x.t x path (E.grp x.t (m2 fs)) [] [] (E.know s nm)=r
      obtain ⟨⟨y,ok⟩,s2⟩:=r
      intro hG5
      dsimp only at hG5 ⊢
      rw [y.row_eta]
      simp +contextual -implicitDefEqProofs only [A0,SS,rA,rS,rL,rE,reduceCtorEq]
      exact WC.ret ⟨_,_,rfl,pv4,by rw [y.row_eta]; rfl,hG5⟩
    · rw [hh,if_neg (by decide)]
      simp +contextual -implicitDefEqProofs only [A0,SS,rA,rS,rL,rE,reduceCtorEq,hh,Bool.not_false]
      exact WC.ret ⟨_,_,rfl,pv,by rw [Val.none_row]; rfl,hG3⟩
end Go.Cb.CodeA
set_option maxRecDepth 20000
set_option linter.unusedSimpArgs false
set_option linter.unusedVariables false
namespace Go.Cb.CodeA
open Go Go.Cb
open Nat renaming reduceAdd→rA,reduceSub→rS,reduceLeDiff→rL,reduceEqDiff→rE
attribute [local congr] i7 j1 j2 j3 j0 i8 k6 j9 V.runR_congr
theorem c7A {x:Ent} (hx:a1S x) (n:List Nat):VX (atK 6 x.ks x.ls n):=by
 unfold atK
 rw [if_pos (show eqI 6 6=true from rfl)]
 cases hq:pI (fun y=>eqN n y) x.ks with
 | none=>exact VX.none
 | some i =>
  dsimp only
  cases hi:x.ls[i]? with
  | none=>exact VX.none
  | some v=>exact hx.2.2 v (List.mem_of_getElem? hi)
theorem c02 {α:Type} (l:List α):eqI (l.length:Int) 0=l.isEmpty:=by
 cases l with
 | nil=>rfl
 | cons a l=>rw [eqI_eq]; simp; omega
theorem c4s {l:List Ent} (hl:l.length≤100000):VX (.mk 5 0 [] [] (l.map fun y=>J3 y.id)) :=
 ⟨5,0,[],_,rfl,by decide,by rw [AF]; exact hl,fun u hu=>by obtain ⟨y,_,rfl⟩:=List.mem_map.1 hu; exact ⟨_,_,_,rfl,by decide⟩⟩
theorem EntsAt.len {v:AV} {es:List Ent} {st:St} (h:EntsAt v es st):∀ (call:d8) (bx:AV) (st:St),C2 call [v] bx st=some (.int .i64 es.length,bx,st):=fun call bx st=>by
 rcases h with ⟨rfl,rfl⟩|⟨o,rfl,_⟩ <;> rfl
theorem EntsAt.get {v:AV} {es:List Ent} {st:St} (h:EntsAt v es st) {i:Nat} (hi:i < es.length):∃ a,(∀ (call:d8) (bx:AV) (st:St),D6 4 call [v,.int .i64 i] bx st=some (a,bx,st))∧(∀ (call:d8) (bx:AV),C1 true 4 call [a] bx st=some (.agg es[i].row,bx,st))∧a.stripB=a∧a.weak=a:=by
 rcases h with ⟨rfl,rfl⟩|⟨o,rfl,ho⟩
 · cases hi
 · refine ⟨.ptr o (i*4),fun call bx st=>?_,fun call bx=>a6b ho hi call bx,rfl,rfl⟩
   simp only [D6]
   rw [if_pos ⟨by omega,by omega,trivial⟩,Int.toNat_natCast,Nat.zero_add]
theorem c0v {E:REnv} {B:St} (hE:E.OK B) {n:Nat} (ihV:b10 E B n) {s:RS} {pv:AV} {st:St} (h:RunAt E B s pv st) {typ:List Nat} {x:Ent} (hx:a1S x) {f:FDef} {nm:List Nat} (hf:E.fld typ nm=some f) {fs:List Sel} {fo:Nat} {key:List Nat} {path:List (List Nat)} (hfs:FsAt B pv st fo fs (2001*(s.steps+1)))
 (hp:path≠[]) (hpl:path.length≤s.steps) (hfew:s.ps.length+2≤2*s.steps) (hfuel:5001 < n+s.steps) :
 EvQ tbl 87 [.ptr B.length 0,.str typ,.agg x.row,.agg f.row,.agg [.str key,.sl fo 0 fs.length 7],.list false (path.map e8)] st (b6n E B s pv st (m8 E (valF E n) typ x f fs path s)):=by
 have hesl:=hE.esl
 have hob:=h.ob
 have hle:=h.le
 obtain ⟨w1,w2,w3,w4,w5,w6,w7⟩:=h.pr.wk
 unfold F4 at hob
 have hC:=fun (v:Val) (hv:VX v)=>a0B h (t:=f.t) (v:=v) (fs:=fs) (fo:=fo) (key:=key) hp hpl hfew (valF E n) (ihV h hv hfs hp hpl hfew hfuel)
 unfold m8 N1 j5 idN
 obtain ⟨v,e,hve⟩:∃ v e,E.args f (U4 fs)=(v,e):=⟨_,_,rfl⟩
 rw [hve]
 dsimp only
 rw [show x.row=[.str x.t,.str x.id,.list false (x.ks.map e8),.list false (x.ls.map Val.row)] from rfl,FDef.row]
 refine EvQ.body (fn:=a87) rfl rfl rfl ?_
 simp +contextual -implicitDefEqProofs only [K87,SS,rA,rS,rL,rE,reduceCtorEq]
 rcases e9 (eqN f.n [95,95,116,121,112,101,110,97,109,101]) with h0|h0
 · rw [if_pos h0]
   simp +contextual -implicitDefEqProofs only [K87,SS,rA,rS,rL,rE,reduceCtorEq,h0]
   exact WC.ret ⟨_,_,rfl,pv,by rw [Val.row_eq]; rfl,Goes.refl h (by omega)⟩
 rw [h0,if_neg (by decide)]
 simp +contextual -implicitDefEqProofs only [K87,SS,rA,rS,rL,rE,reduceCtorEq,h0]
 rcases e9 (eqN typ [81,117,101,114,121]) with h1|h1
 rotate_left
 · rw [h1,Bool.not_false,if_pos rfl]
   have hc:=hC _ (c7A hx f.n)
   rw [f.t.row_eta,(atK 6 x.ks x.ls f.n).row_eta] at hc
   simp +contextual -implicitDefEqProofs only [K87,SS,rA,rS,rL,rE,reduceCtorEq,h1,Bool.not_false]
   refine WC.call (b7B (k:=6) (by have:=hx.2.1; omega) (fun _=>hx.1) f.n st) rfl rfl ?_
   rintro _ st ⟨rfl,b,rfl⟩
   rw [(atK 6 x.ks x.ls f.n).row_eta]
   simp +contextual -implicitDefEqProofs only [K87,SS,rA,rS,rL,rE,reduceCtorEq]
   refine WC.call hc rfl rfl ?_
   rintro _ st2 ⟨pv2,rfl,hG⟩
   revert hG
   generalize y9 (valF E n) f.t (atK 6 x.ks x.ls f.n) fs path s=r
   obtain ⟨⟨y,ok⟩,s2⟩:=r
   intro hG
   dsimp only at hG ⊢
   rw [y.row_eta]
   simp +contextual -implicitDefEqProofs only [K87,SS,rA,rS,rL,rE,reduceCtorEq]
   exact WC.ret ⟨_,_,rfl,pv2,by rw [y.row_eta]; rfl,hG⟩
 rw [h1,Bool.not_true,if_neg (by decide)]
 have hb:=c7w f.t st
 rw [f.t.row_eta] at hb
 simp +contextual -implicitDefEqProofs only [K87,SS,rA,rS,rL,rE,reduceCtorEq,h1,Bool.not_true]
 refine WC.call hb rfl rfl ?_
 rintro _ st ⟨rfl,rfl⟩
 obtain ⟨t1,t2,t3⟩:=hE.tvw
 obtain ⟨y1,y2,y3,y4,y5,y6,y7⟩:=hE.ents.wk
 simp +contextual -implicitDefEqProofs only [K87,SS,rA,rS,rL,rE,reduceCtorEq,hob,t1,t2,t3,y1,y2,y3,y4,y5,y6,y7]
 refine WC.call (hE.knows st h.gr f.t.bs) (by simp only [R.allPlain_c,R.allPlain_n,R.plain_agg]; rfl) (by simp only [AG,AL,O3,t1,y2]; rfl) ?_
 rintro _ st2 ⟨hg,rfl⟩
 obtain ⟨st3,hG3,hst3⟩:=a9O h (by omega) hg f.t.bs
 have hob2:=((Goes.refl h (by omega)).grow hg).run.ob
 obtain ⟨es,ep⟩:=b4m E s f.t.bs
 have hob3:=hG3.run.ob
 have hfs3:=hfs.keep hG3.rk (M:=2001*((E.know s f.t.bs).steps+1)) (by rw [es]; exact AJ _)
 have hgr3:=hG3.run.gr
 have hents:EntsAt E.v E.es st3:=hE.ents.gr hgr3
 have hC3:=fun (v:Val) (hv:VX v)=>a0B hG3.run (t:=f.t) (v:=v) (fs:=fs) (fo:=fo) (key:=key) hp (by omega) (by rw [ep,es]; exact hfew) (valF E n) (ihV hG3.run hv hfs3 hp (by omega) (by rw [ep,es]; exact hfew) (by omega))
 unfold F4 at hob2 hob3
 revert hst3
 rcases e9 (E.knows f.t.bs) with hkn|hkn <;> rw [hkn] <;> intro hst3
 rw [if_pos rfl] at hst3
 rotate_left
 rw [if_neg (by decide)] at hst3
 all_goals
  simp +contextual -implicitDefEqProofs only [K87,SS,rA,rS,rL,rE,reduceCtorEq,Bool.not_true,Bool.not_false,hob2,c02]
  rw [← hst3]
  clear hst3
  rcases e9 f.ar.isEmpty with ha|ha
  · rw [if_pos ha]
    simp +contextual -implicitDefEqProofs only [K87,SS,rA,rS,rL,rE,reduceCtorEq,ha,hob3,hents.len,y1,y2,y3,y4,y5,y6,y7]
    refine WC.loopR (fun mm fr st'=>st'=st3∧∃ (i:Nat) (v14:AV),i≤E.es.length∧mm=E.es.length - i ∧
     fr=[.ptr B.length 0,.str typ,.agg [.str x.t,.str x.id,.list false (x.ks.map e8),.list false (x.ls.map Val.row)],.agg [.str f.n,.list false f.ar,.str f.t.nm,.list false f.t.of,.bool f.t.bang,.bool f.has,.int .u8 f.v.kind,.int .i64 f.v.num,.str f.v.text,.list false (f.v.names.map e8),.list false (f.v.vals.map Val.row)],
      .agg [.str key,.sl fo 0 fs.length 7],.list false (path.map e8),.box [.str x.t,.str x.id,.list false (x.ks.map e8),.list false (x.ls.map Val.row)],.box [.str f.n,.list false f.ar,.str f.t.nm,.list false f.t.of,.bool f.t.bang,.bool f.has,.int .u8 f.v.kind,.int .i64 f.v.num,.str f.v.text,.list false (f.v.names.map e8),.list false (f.v.vals.map Val.row)],
      .box [.str key,.sl fo 0 fs.length 7],.box [.int .u8 0,.int .i64 0,.str [],.list true [],.list true []],.bool false,.undef,.str f.t.bs,.box [.int .u8 5,.int .i64 0,.str [],.list true [],.list true ((((E.es.take i).filter fun y=>l6 (E.poss f.t.bs) y.t).map fun y=>J3 y.id).map Val.row)],v14,.undef,.undef,.undef,E.v,.int .i64 E.es.length,.int .i64 i])
     (m:=E.es.length) ⟨rfl,0,_,Nat.zero_le _,rfl,rfl⟩ ?_
    rintro mm fr st4 ⟨rfl,i,v14,hi,rfl,rfl⟩
    simp +contextual -implicitDefEqProofs only [K87,SS,rA,rS,rL,rE,reduceCtorEq,ltN]
    by_cases hil:i < E.es.length
    rotate_left
    · rw [List.take_of_length_le (by omega)]
      have hvx:=c4s (l:=E.es.filter fun y=>l6 (E.poss f.t.bs) y.t) (Nat.le_trans (List.length_filter_le _ _) (by have:=hE.esl; omega))
      have hc:=hC3 _ hvx
      rw [f.t.row_eta,Val.row_eq,AL] at hc
      revert hc
      generalize ((E.es.filter fun y=>l6 (E.poss f.t.bs) y.t).map fun y=>J3 y.id)=L
      intro hc
      simp +contextual -implicitDefEqProofs only [K87,SS,rA,rS,rL,rE,reduceCtorEq,hil]
      refine WC.leave ?_
      simp +contextual -implicitDefEqProofs only [K87,SS,rA,rS,rL,rE,reduceCtorEq]
      refine WC.call hc rfl rfl ?_
      rintro _ st2 ⟨pv2,rfl,hG⟩
      have hG:=hG3.trans hG
      revert hG
      generalize y9 (valF E n) f.t (.mk 5 0 [] [] L) fs path (E.know s f.t.bs)=r
      obtain ⟨⟨y,ok⟩,s2⟩:=r
      intro hG
      dsimp only at hG ⊢
      rw [y.row_eta]
      simp +contextual -implicitDefEqProofs only [K87,SS,rA,rS,rL,rE,reduceCtorEq]
      exact WC.ret ⟨_,_,rfl,pv2,by rw [y.row_eta]; rfl,hG⟩
    obtain ⟨a,ga1,ga2,ga3,ga4⟩:=hents.get hil
    have e3:E.es.take (i+1)=E.es.take i++[E.es[i]]:=by rw [List.take_add_one,AD hil]; rfl
    have hfl:((((E.es.take i).filter fun y=>l6 (E.poss f.t.bs) y.t).map fun y=>J3 y.id).map Val.row).length≤1000:=by
     rw [AF,AF]
     have:=List.length_filter_le (fun y=>l6 (E.poss f.t.bs) y.t) (E.es.take i)
     rw [AO] at this
     have:=hE.esl
     omega
    have hr5:l3 5 ((((E.es.take i).filter fun y=>l6 (E.poss f.t.bs) y.t).map fun y=>J3 y.id).map Val.row)=true:=a0U _
    have hnx:∀ e:Ent,E.es[i]=e→∀ (w:AV) b,l6 (E.poss f.t.bs) e.t=b→(((E.es.take (i+1)).filter fun y=>l6 (E.poss f.t.bs) y.t).map fun y=>J3 y.id).map Val.row=(((E.es.take i).filter fun y=>l6 (E.poss f.t.bs) y.t).map fun y=>J3 y.id).map Val.row++(if b then [[.int .u8 8,.int .i64 0,.str e.id,.list false [],.list false []]] else []):=fun e he w b hb=>by
     rw [e3,he,List.filter_append,AU,AU]
     cases b
     · simp [hb]
     · simp [hb,J3,Val.row_eq]
    have hgx:l6 (E.poss f.t.bs)=l6 (E.poss f.t.bs):=rfl
    generalize hE1:E.es[i]=e at *
    have hnx:=hnx e rfl .undef
    have ee:e.row=[.str e.t,.str e.id,.list false (e.ks.map e8),.list false (e.ls.map Val.row)]:=rfl
    rw [ee] at ga2
    have g5:((((E.es.take i).filter fun y=>l6 (E.poss f.t.bs) y.t).map fun y=>J3 y.id).map Val.row).length+1≤1001:=by omega
    simp +contextual -implicitDefEqProofs only [K87,SS,rA,rS,rL,rE,reduceCtorEq,hil,y1,ga1,ga2,ga3,ga4,hob3]
    refine WC.call (hE.poss _ hgr3 f.t.bs) rfl rfl ?_
    rintro _ st4 ⟨rfl,rfl⟩
    simp +contextual -implicitDefEqProofs only [K87,SS,rA,rS,rL,rE,reduceCtorEq]
    refine WC.call (I0 (E.poss f.t.bs) (hE.possl _) e.t _) rfl rfl ?_
    rintro _ st4 ⟨rfl,rfl⟩
    rcases e9 (l6 (E.poss f.t.bs) e.t) with hh|hh
    · simp +contextual -implicitDefEqProofs only [K87,SS,rA,rS,rL,rE,reduceCtorEq,hh,hr5,show (((((E.es.take i).filter fun y=>l6 (E.poss f.t.bs) y.t).map fun y=>J3 y.id).map Val.row).length+1)*80≤2 ^ 47 by omega,s9 (show i+1 < 2 ^ 63 by omega)]
      exact WC.next (m':=E.es.length - (i+1)) (by omega) ⟨rfl,i+1,_,hil,rfl,by rw [hnx _ hh]; rfl⟩
    · simp +contextual -implicitDefEqProofs only [K87,SS,rA,rS,rL,rE,reduceCtorEq,hh,s9 (show i+1 < 2 ^ 63 by omega)]
      exact WC.next (m':=E.es.length - (i+1)) (by omega) ⟨rfl,i+1,_,hil,rfl,by rw [hnx _ hh,if_neg (by decide),List.append_nil]⟩
  · rw [ha,if_neg (by decide)]
    obtain ⟨k0,al0,nm0,on0,as0,ds0,sub0,fs0,rfl⟩:∃ k al nm on as ds sub fs',fs=Sel.mk k al nm on as ds sub::fs':=by
     cases fs with
     | nil=>exact absurd rfl hfs3.x.1
     | cons s fs'=>obtain ⟨k,al,nm,on,as,ds,sub⟩:=s; exact ⟨_,_,_,_,_,_,_,_,rfl⟩
    have has:ArgsOK as0:=by
     have:=hfs3.x.2.ok _ (List.mem_cons_self ..)
     cases this
     assumption
    have hrg:∀ a∈as0,a.v.Rng:=by
     have:=hfs3.x.2.rg _ (List.mem_cons_self ..)
     cases this
     assumption
    have hat:=hfs3.at_
    have hcell:o9 (Sel.mk k0 al0 nm0 on0 as0 ds0 sub0::fs0)=[.int .u8 k0,.str al0,.str nm0,.str on0,.list false (as0.map Arg.row),.list false (ds0.map Dir.row),.list false (sub0.map Sel.row)]++o9 fs0:=by
     rw [← Sel.row_eq]; rfl
    rw [hcell] at hat
    have hlt0:((0:Int) < ((fs0.length+1:Nat):Int))=True:=by simp only [eq_iff_iff,iff_true]; omega
    have hq:=hE.args st3 hgr3 nm f (by rw [← hf,(x9 _ _).1 h1]; rfl) ha as0 has hrg
    unfold REnv.vars FDef.row at hq
    have hx2:=hE.argsx f as0
    have hve:E.args f as0=(v,e):=hve
    rw [hve] at hq hx2
    dsimp only at hq hx2
    rw [v.row_eta] at hq
    simp +contextual -implicitDefEqProofs only [K87,SS,rA,rS,rL,rE,reduceCtorEq,ha,hob3,AX,hlt0,if_true,Nat.zero_mul,R.ldAn_ptr,hat]
    refine WC.call hq rfl rfl ?_
    rintro _ st5 ⟨hg5,w,rfl⟩
    have hG5:=hG3.grow hg5
    have hr5:=hG3.run.grow hg5
    have hfs5:=hfs3.keep (RK.of_gr hg5 hg5.len) (AJ _)
    simp +contextual -implicitDefEqProofs only [K87,SS,rA,rS,rL,rE,reduceCtorEq]
    rcases e9 (eqI e 0) with he|he
    · rw [if_pos he]
      have hvx:VX (J3 (atK v.kind v.names v.vals [105,100]).text):=VX.one (by decide)
      have hc:=a0B hr5 (t:=f.t) (v:=J3 (atK v.kind v.names v.vals [105,100]).text) (fo:=fo) (key:=key) hp (by omega) (by rw [ep,es]; exact hfew) (valF E n) (ihV hr5 hvx hfs5 hp (by omega) (by rw [ep,es]; exact hfew) (by omega))
      revert hc
      generalize hgz:y9 (valF E n) f.t (J3 (atK v.kind v.names v.vals [105,100]).text) _ path (E.know s f.t.bs)=r
      obtain ⟨⟨y,ok⟩,s2⟩:=r
      unfold J3
      rw [f.t.row_eta,Val.row_eq,AL,AL]
      intro hc
      simp +contextual -implicitDefEqProofs only [K87,SS,rA,rS,rL,rE,reduceCtorEq,he,Bool.not_true]
      refine WC.call (b7B hx2.1 hx2.2 [105,100] st5) rfl rfl ?_
      rintro _ st5 ⟨rfl,b,rfl⟩
      rw [(atK v.kind v.names v.vals [105,100]).row_eta]
      simp +contextual -implicitDefEqProofs only [K87,SS,rA,rS,rL,rE,reduceCtorEq]
      refine WC.call hc rfl rfl ?_
      rintro _ st6 ⟨pv2,rfl,hG⟩
      have hG:=hG5.trans hG
      dsimp only at hG ⊢
      rw [y.row_eta]
      simp +contextual -implicitDefEqProofs only [K87,SS,rA,rS,rL,rE,reduceCtorEq]
      exact WC.ret ⟨_,_,rfl,pv2,by rw [y.row_eta]; rfl,hG⟩
    · rw [he,if_neg (by decide)]
      simp +contextual -implicitDefEqProofs only [K87,SS,rA,rS,rL,rE,reduceCtorEq,he,Bool.not_false]
      refine WC.call (a1J hr5 hp (by omega) (by rw [ep]; omega) e) rfl rfl ?_
      rintro _ st6 ⟨pv2,h2,hk2⟩
      simp +contextual -implicitDefEqProofs only [K87,SS,rA,rS,rL,rE,reduceCtorEq]
      exact WC.ret ⟨_,_,rfl,pv2,by rw [Val.none_row]; rfl,hG5.trans (a1y (by rw [ep,es]; omega) h2 hk2)⟩
end Go.Cb.CodeA
set_option maxRecDepth 20000
set_option linter.unusedSimpArgs false
set_option linter.unusedVariables false
namespace Go.Cb.CodeA
open Go Go.Cb
open Nat renaming reduceAdd→rA,reduceSub→rS,reduceLeDiff→rL,reduceEqDiff→rE
attribute [local congr] i7 j1 j2 j3 j0 i8 k6 j9 V.runR_congr
structure Beside (B:St) (pv:AV) (st:St) (i:Nat) (x:Cb.Obj):Prop where
 at_:st[i]?=some x
 ne:i≠B.length∧B8 pv≠some i
theorem Beside.keep {B:St} {pv pv':AV} {st st':St} {i:Nat} {x:Cb.Obj} (h:Beside B pv st i x) (hk:RK B pv st pv' st'):Beside B pv' st' i x:=by
 refine ⟨hk.keep i _ h.ne.1 h.ne.2 h.at_,h.ne.1,fun hr=>?_⟩
 rcases hk.pv with e|e
 · rw [e] at hr; exact h.ne.2 hr
 · have:=e i hr
   have:=(AB.1 h.at_).1
   omega
theorem RunAt.beside {E:REnv} {B:St} {s:RS} {pv:AV} {st:St} (h:RunAt E B s pv st) {i:Nat} (hi:st.length≤i):i≠B.length∧B8 pv≠some i :=
 ⟨by have:=(AB.1 h.ob).1; omega,fun hr=>by have:=(h.pr.root i hr).2; omega⟩
theorem Goes.other {E:REnv} {B:St} {s s1:RS} {pv pv1:AV} {st st1:St} (h:Goes E B s pv st s1 st1 pv1) (hst:B.length < st.length) {i:Nat} (hi:st.length≤i) (hr:B8 pv1≠some i) (x:Cb.Obj):Goes E B s pv st s1 (st1.set i x) pv1:=by
 have hk:∀ j y,j≠i→st1[j]?=some y→(st1.set i x)[j]?=some y:=fun j y hj hy=>by rw [List.getElem?_set_ne (by omega)]; exact hy
 refine ⟨⟨hk _ _ (by omega) h.run.ob,?_,fun j y hj=>hk j y (by have:=(AB.1 hj).1; omega) (h.run.gr j y hj),h.run.le,h.run.pl⟩,⟨fun j y h1 h2 h3=>hk j y (by have:=(AB.1 h3).1; omega) (h.rk.keep j y h1 h2 h3),by rw [AY]; exact h.rk.len,h.rk.pv⟩,h.steps,h.few,h.more⟩
 rcases h.run.pr with hp|⟨o,h1,h2,h3⟩
 · exact .inl hp
 · exact .inr ⟨o,h1,h2,hk o _ (fun e=>hr (by rw [h2,e]; rfl)) h3⟩
theorem b9W {gs:List Grp} {i:Nat} (hi:i < gs.length):(2≤(List.drop (i*2) (s5 gs)).length)=True∧List.map AV.weak1 (List.take 2 (List.drop (i*2) (s5 gs)))=[.str gs[i].key,.sl gs[i].fo 0 gs[i].fs.length 7]:=by
 have h:=a1Q gs i
 rw [List.drop_eq_getElem_cons hi,F9] at h
 rw [h]
 exact ⟨by simp,rfl⟩
theorem GrpS.w {c:Nat} {st:St} {out:AV} {gs:List Grp} (h:GrpS c st out gs):∃ (w:AV) (go:Nat),out.weak=w∧w.strip=w∧w.weak=w∧(∀ (call:d8) (bx:AV) (st:St),C2 call [w] bx st=some (.int .i64 gs.length,bx,st)) ∧
 (gs≠[]→c < go∧st[go]?=some (.cells (s5 gs))∧∀ i:Nat,i < gs.length→∀ (call:d8) (bx:AV) (st:St),D6 2 call [w,.int .i64 i] bx st=some (.ptr go (i*2),bx,st)):=by
 rcases h.out with ⟨rfl,rfl⟩|⟨o,rfl,h2,h3,_⟩
 · exact ⟨.list false [],0,rfl,rfl,rfl,fun _ _ _=>rfl,fun h=>absurd rfl h⟩
 · refine ⟨.sl o 0 gs.length 2,o,rfl,rfl,rfl,fun _ _ _=>rfl,fun _=>⟨h2,h3,fun i hi call bx st=>?_⟩⟩
   simp only [D6]
   rw [if_pos ⟨by omega,by omega,trivial⟩,Int.toNat_natCast,Nat.zero_add]
theorem Beside.other {B:St} {pv:AV} {st:St} {i j:Nat} {x y:Cb.Obj} (h:Beside B pv st i x) (hj:j≠i):Beside B pv (st.set j y) i x:=⟨by rw [List.getElem?_set_ne hj]; exact h.at_,h.ne⟩
theorem Beside.put {B:St} {pv:AV} {st:St} {i:Nat} {x y:Cb.Obj} (h:Beside B pv st i x):Beside B pv (st.set i y) i y:=⟨List.getElem?_set_self (AB.1 h.at_).1,h.ne⟩
theorem c56 (d o:Nat) (call:d8) (bx:AV) (st:St):E6 d call [.ptr o d,.ptr o 0] bx st=D8 call [.ptr o d] bx st:=by
 simp only [E6]
 rw [if_pos ⟨by simp,by simp⟩]
theorem a9p {E:REnv} {B:St} (hE:E.OK B) {n:Nat} (ihV:b10 E B n):c7C E B n:=by
 intro s pv st h typ x l path hx hl hpl hfew hfuel
 have hob:=h.ob
 have hle:=h.le
 have hlt:B.length < st.length:=(AB.1 hob).1
 obtain ⟨w1,w2,w3,w4,w5,w6,w7⟩:=h.pr.wk
 have hG0:=Goes.refl h hfew
 have ho1:=l5 (y:=D5 [] []) hob
 have hgl:=hE.grpl typ l ⟨hl.ok,hl.rg,Nat.le_trans hl.sz (by omega)⟩
 have hgx:=hE.grpx typ l _ hl
 have hgq:=hE.grp (st++[D5 [] []]) (fun i y hy=>l5 (h.gr i y hy)) typ l ⟨hl.ok,hl.rg,Nat.le_trans hl.sz (by omega)⟩
 unfold F4 at hob ho1
 unfold REnv.vars at hgq
 rw [show x.row=[.str x.t,.str x.id,.list false (x.ks.map e8),.list false (x.ls.map Val.row)] from rfl]
 unfold D5 at *
 rw [AL,AL] at *
 refine EvQ.body (fn:=a39) rfl rfl rfl ?_
 simp +contextual -implicitDefEqProofs only [K39,SS,rA,rS,rL,rE,reduceCtorEq,p8,N6,ho1]
 refine WC.call hgq rfl rfl ?_
 rintro _ st1 ⟨hg1,out,gs,rfl,hG1,hgs⟩
 obtain ⟨w,go,ew,q1,q2,qlen,qgo⟩:=hG1.w
 rw [ew]
 have hgsl:gs.length≤90000000:=by rw [← hgs,AF] at hgl; exact hgl
 rw [← hgs] at hgx ⊢
 have hb0:Beside B pv st1 st.length (D5 [] []):=⟨hg1 _ _ (p8 _ _),h.beside (AJ _)⟩
 have hg01:Gr st st1:=fun i y hy=>hg1 i y (l5 hy)
 have hbg:gs≠[]→Beside B pv st1 go (.cells (s5 gs)):=fun hne=>⟨(qgo hne).2.1,h.beside (by have:=(qgo hne).1; simp at this; omega)⟩
 have hbf:∀ g∈gs,Beside B pv st1 g.fo (.cells (o9 g.fs)):=fun g hg=>⟨(hG1.fs g hg).2,h.beside (by have:=(hG1.fs g hg).1; simp at this; omega)⟩
 have hfo:∀ g∈gs,st.length≠g.fo:=fun g hg=>by have:=(hG1.fs g hg).1; simp at this; omega
 have hgo:gs≠[]→st.length≠go:=fun hne=>by have:=(qgo hne).1; simp at this; omega
 have hGz:=hG0.grow hg01
 simp +contextual -implicitDefEqProofs only [K39,SS,rA,rS,rL,rE,reduceCtorEq,q1,q2,qlen]
 clear hgq hG1 hg1 ho1
 generalize hX0:u9 E (valF E n) typ x path (gs.map Grp.pr) [] [] s=RR
 refine WC.loopR (fun mm fr st'=>∃ (i:Nat) (ks:List (List Nat)) (ls:List Val) (s1:RS) (pv1 v9 v10 v11 v12 v13 v14:AV),i≤gs.length∧mm=gs.length - i∧ks.length≤i∧ls.length≤i∧Goes E B s pv st s1 st' pv1∧Beside B pv1 st' st.length (D5 ks ls)∧(gs≠[]→Beside B pv1 st' go (.cells (s5 gs)))∧(∀ g∈gs,Beside B pv1 st' g.fo (.cells (o9 g.fs)))∧RR=u9 E (valF E n) typ x path ((gs.drop i).map Grp.pr) ks ls s1 ∧
  fr=[.ptr B.length 0,.str typ,.agg [.str x.t,.str x.id,.list false (x.ks.map e8),.list false (x.ls.map Val.row)],.list false (l.map Sel.row),.list false (path.map e8),.box [.str x.t,.str x.id,.list false (x.ks.map e8),.list false (x.ls.map Val.row)],.box [.int .u8 0,.int .i64 0,.str [],.list true [],.list true []],.bool false,.ptr st.length 0,v9,v10,v11,v12,v13,v14,w,.int .i64 gs.length,.int .i64 i])
  (m:=gs.length) ⟨0,[],[],s,pv,_,_,_,_,_,_,Nat.zero_le _,rfl,AJ _,AJ _,hGz,hb0,hbg,hbf,hX0.symm,rfl⟩ ?_
 clear hbg hbf hb0 hX0 hGz
 rintro mm fr st1 ⟨i,ks,ls,s1,pv1,v9,v10,v11,v12,v13,v14,hi,rfl,hkl,hll,hG,hbo,hbg,hbf,hX,rfl⟩
 have hao:=hbo.at_
 unfold D5 at hao
 simp +contextual -implicitDefEqProofs only [K39,SS,rA,rS,rL,rE,reduceCtorEq,ltN]
 by_cases hil:i < gs.length
 rotate_left
 · rw [List.drop_of_length_le (by omega),AL,u9] at hX
   simp +contextual -implicitDefEqProofs only [K39,SS,rA,rS,rL,rE,reduceCtorEq,hil]
   refine WC.leave ?_
   simp +contextual -implicitDefEqProofs only [K39,SS,rA,rS,rL,rE,reduceCtorEq,hao]
   exact WC.ret ⟨_,_,rfl,pv1,by rw [hX,Val.row_eq]; rfl,hX ▸ hG⟩
 have hne:gs≠[]:=fun e=>by rw [e] at hil; cases hil
 have hgm:=List.getElem_mem hil
 have hag:=(hbg hne).at_
 have qia:=(qgo hne).2.2 i hil
 obtain ⟨c1,c2⟩:=b9W hil
 have hbfi:=hbf _ hgm
 obtain ⟨gx1,gx2⟩:=hgx _ (List.mem_map_of_mem (f:=Grp.pr) hgm)
 rw [List.drop_eq_getElem_cons hil,AG] at hX
 have hinc:=s9 (show i+1 < 2 ^ 63 by omega)
 revert c2 hbfi gx1 gx2 hX
 generalize gs[i]=g
 obtain ⟨key,fo,fs⟩:=g
 intro hX c2 hbfi gx1 gx2
 dsimp only [Grp.pr] at hX c2 hbfi gx1 gx2
 obtain ⟨k0,al0,nm0,on0,as0,ds0,sub0,fs0,efs⟩:∃ k al nm on as ds sub fs',fs=Sel.mk k al nm on as ds sub::fs':=by
  cases fs with
  | nil=>exact absurd rfl gx1
  | cons s fs'=>obtain ⟨k,al,nm,on,as,ds,sub⟩:=s; exact ⟨_,_,_,_,_,_,_,_,rfl⟩
 have hcell:o9 fs=[.int .u8 k0,.str al0,.str nm0,.str on0,.list false (as0.map Arg.row),.list false (ds0.map Dir.row),.list false (sub0.map Sel.row)]++o9 fs0:=by
  rw [efs,← Sel.row_eq]; rfl
 have hlt0:((0:Int) < (fs.length:Int))=True:=by rw [efs,AX]; simp only [eq_iff_iff,iff_true]; omega
 have hfn:R3 fs=nm0:=by rw [efs]; rfl
 have hat:=hbfi.at_
 rw [hcell] at hat
 rw [u9,hfn] at hX
 have hob1:=hG.run.ob
 unfold F4 at hob1
 simp +contextual -implicitDefEqProofs only [K39,SS,rA,rS,rL,rE,reduceCtorEq,hil,q2,qia,hag,c1,c2,if_true,hob1,hlt0,Nat.zero_mul,R.ldAn_ptr,hat]
 refine WC.call (hE.fld _ hG.run.gr typ nm0) rfl rfl ?_
 rintro _ st1 ⟨rfl,rfl⟩
 revert hX
 cases hfd:E.fld typ nm0 with
 | none =>
  intro hX
  dsimp only at hX
  rw [Option.getD_none]
  simp +contextual -implicitDefEqProofs only [K39,SS,rA,rS,rL,rE,reduceCtorEq,FDef.none,FDef.row,Val.none,Val.kind,Val.num,Val.text,Val.names,Val.vals,AL,TRef.nm,TRef.of,TRef.bang,Option.isSome_none,Bool.not_false,hinc]
  exact WC.next (m':=gs.length - (i+1)) (by omega) ⟨i+1,ks,ls,s1,pv1,_,_,_,_,_,_,hil,rfl,by omega,by omega,hG,hbo,hbg,hbf,hX,rfl⟩
 | some f =>
  intro hX
  dsimp only at hX
  rw [Option.getD_some]
  have hsl:=s1.step_le
  have hst:=hG.steps
  have hrle:=hG.run.le
  have hfw:=hG.few
  simp +contextual -implicitDefEqProofs only [K39,SS,rA,rS,rL,rE,reduceCtorEq,FDef.row,Option.isSome_some,Bool.not_true]
  refine WC.call (b7K hG.run) rfl rfl ?_
  rintro _ st2 ⟨rfl,hr2,hk2⟩
  have hG2:=hG.trans (a9v hG.few hr2 hk2)
  by_cases c:s1.step.steps≤5000
  rotate_left
  · rw [if_neg c] at hX
    simp +contextual -implicitDefEqProofs only [K39,SS,rA,rS,rL,rE,reduceCtorEq,decide_eq_false c,Bool.not_false]
    refine WC.leaveR ?_
    simp +contextual -implicitDefEqProofs only [K39,SS,rA,rS,rL,rE,reduceCtorEq]
    exact WC.ret ⟨_,_,rfl,pv1,by rw [hX,Val.none_row]; rfl,hX ▸ hG2⟩
  rw [if_pos c] at hX
  have hr1:l3 1 (path.map e8)=true:=a4u path
  have g1:((path.map e8).length+1)*16≤2 ^ 47:=by rw [AF]; omega
  have hbf2:=hbfi.keep hk2
  have hps2:s1.step.ps.length+2≤2*s1.step.steps:=by show s1.ps.length+2≤_; omega
  have hfq:=c0v hE ihV hr2 (typ:=typ) hx hfd (fs:=fs) (fo:=fo) (key:=key) (path:=path++[key]) ⟨hbf2.at_,hbf2.ne,gx1,gx2.ok,gx2.rg,Nat.le_trans gx2.sz (by omega)⟩ (by simp) (by simp; omega) hps2 (by omega)
  rw [show x.row=[.str x.t,.str x.id,.list false (x.ks.map e8),.list false (x.ls.map Val.row)] from rfl,FDef.row,← b74] at hfq
  revert hfq hX
  generalize m8 E (valF E n) typ x f fs (path++[key]) s1.step=r
  obtain ⟨⟨y,ok⟩,s2⟩:=r
  intro hX hfq
  dsimp only at hX
  simp +contextual -implicitDefEqProofs only [K39,SS,rA,rS,rL,rE,reduceCtorEq,decide_eq_true c,Bool.not_true]
  refine WC.call (a5y path (by omega) st2) rfl rfl ?_
  rintro _ st2 ⟨rfl,rfl⟩
  simp +contextual -implicitDefEqProofs only [K39,SS,rA,rS,rL,rE,reduceCtorEq,hr1,g1]
  refine WC.call hfq rfl rfl ?_
  rintro _ st3 ⟨pv3,rfl,hG3⟩
  dsimp only at hG3
  have hGG:=hG2.trans hG3
  have hk3:=hk2.trans hG3.rk
  have hbo3:=hbo.keep hk3
  have hbg3:=fun hne=>(hbg hne).keep hk3
  have hbf3:=fun g hg=>(hbf g hg).keep hk3
  rw [y.row_eta]
  cases ok with
  | false =>
   rw [if_neg (by decide)] at hX
   simp +contextual -implicitDefEqProofs only [K39,SS,rA,rS,rL,rE,reduceCtorEq]
   refine WC.leaveR ?_
   simp +contextual -implicitDefEqProofs only [K39,SS,rA,rS,rL,rE,reduceCtorEq]
   exact WC.ret ⟨_,_,rfl,pv3,by rw [hX,Val.none_row]; rfl,hX ▸ hGG⟩
  | true =>
   rw [if_pos rfl] at hX
   have hao3:=hbo3.at_
   have hget:∀ y:Cb.Obj,(st3.set st.length y)[st.length]?=some y:=fun y=>List.getElem?_set_self (AB.1 hao3).1
   have hrk:l3 1 (ks.map e8)=true:=a4u ks
   have hrl:l3 5 (ls.map Val.row)=true:=a0U ls
   have gk:((ks.map e8).length+1)*16≤2 ^ 47:=by rw [AF]; omega
   have gl:((ls.map Val.row).length+1)*80≤2 ^ 47:=by rw [AF]; omega
   have hnew:=hGG.other hlt (AJ st.length) (hbo3.ne.2) (D5 (ks++[key]) (ls++[y]))
   have enew:D5 (ks++[key]) (ls++[y])=.cells [.int .u8 6,.int .i64 0,.str [],.list true (ks.map e8++[[.str key]]),.list true (ls.map Val.row++[[.int .u8 y.kind,.int .i64 y.num,.str y.text,.list false (y.names.map e8),.list false (y.vals.map Val.row)]])]:=by
    unfold D5
    rw [AU,AU,AG,AL,AG,AL,y.row_eta]
    rfl
   have hbo4:Beside B pv3 (st3.set st.length (D5 (ks++[key]) (ls++[y]))) st.length (D5 (ks++[key]) (ls++[y])):=hbo3.put
   have hbg4:=fun hne=>(hbg3 hne).other (y:=D5 (ks++[key]) (ls++[y])) (hgo hne)
   have hbf4:=fun g hg=>(hbf3 g hg).other (y:=D5 (ks++[key]) (ls++[y])) (hfo g hg)
   unfold D5 at hao3
   rw [enew] at hnew hbo4 hbg4 hbf4
   simp +contextual -implicitDefEqProofs only [K39,SS,rA,rS,rL,rE,reduceCtorEq,hao3,c56,hget,List.getElem?_cons_zero,List.getElem?_cons_succ,List.set_cons_zero,List.set_cons_succ,hrk,hrl,gk,gl,List.set_set,hinc]
   exact WC.next (m':=gs.length - (i+1)) (by omega) ⟨i+1,ks++[key],ls++[y],s2,pv3,_,_,_,_,_,_,hil,rfl,by simp; omega,by simp; omega,hnew,by rw [enew]; exact hbo4,hbg4,hbf4,hX,rfl⟩
end Go.Cb.CodeA
