import Derived.Test.YtbibkdncfclnbaaGreatDoorC6
set_option maxRecDepth 20000
set_option linter.unusedSimpArgs false
set_option linter.unusedVariables false
namespace Go.Cb.CodeA
open Go Go.Cb
open Nat renaming reduceAdd→rA,reduceSub→rS,reduceLeDiff→rL,reduceEqDiff→rE
attribute [local congr] j1 k8 l5 k9 k4 j9 m0 m2 V.runR_congr
/-- an entity -/
structure Ent where
 t:List Nat
 id:List Nat
 ks:List (List Nat)
 ls:List Val
def Ent.row (e:Ent):List AV:=[.str e.t,.str e.id,.list false (e.ks.map j6),.list false (e.ls.map Val.row)]
/-- a value that is drawn -/
def Small (v:Val):Prop:=∃ k n s ls,v=.mk k n s [] ls∧k≠6∧ls.length≤6∧∀ u∈ls,∃ k n s,u=.mk k n s [] []∧k≠6
structure Ent.Good (e:Ent):Prop where
 kl:e.ks.length=e.ls.length
 le:e.ks.length≤6
 sm:∀ v∈e.ls,Small v
theorem b3K {ls:List Val} {i:Nat} (h:i < ls.length):(ls.map Val.row)[i]?=some (ls[i]).row:=by
 rw [List.getElem?_map,List.getElem?_eq_getElem h]; rfl
theorem b2E {ks:List (List Nat)} {i:Nat} (h:i < ks.length):(ks.map j6)[i]?=some [.str ks[i]]:=by
 rw [List.getElem?_map,List.getElem?_eq_getElem h]; rfl
theorem z2:((2:Int)=0)=False:=by simp
theorem z4:((4:Int)=0)=False:=by simp
theorem z5:((5:Int)=0)=False:=by simp
theorem z7:((7:Int)=0)=False:=by simp
theorem z8:((8:Int)=0)=False:=by simp
theorem z16:((16:Int)=0)=False:=by simp
theorem b5t {t d n:Int} {s:List Nat} {own:Bool} {refs:List (List AV)} {lack:Int} (e:Ent) (hg:e.Good) (o1 o2:Bool) (v0 v3 v5 v6 v7 v8 v9 v10 v11 v12 v13 v14 v15 v16:AV) (st:St) :
 WC (fun k=>e7 (j7 tbl k) k a25s120 [v0,.box [.int .u8 t,.int .u8 d,.int .i32 n,.str s,.list own refs,.int .u8 lack],.box [.str [],.str [],.list true [],.list true []],v3,.box [.str e.t,.str e.id,.list o1 (e.ks.map j6),.list o2 (e.ls.map Val.row)],v5,v6,v7,v8,v9,v10,v11,v12,v13,v14,v15,v16] st)
  (fun o=>∃ r st',Go.Cb.finK [.bx 2 true 4] (some o)=some (r,st')∧st'=st∧∃ e':Ent,r=.agg e'.row∧e'.Good∧e'.id=e.id∧e'.t=e.t):=by
 have hkl:=hg.kl
 have hle:=hg.le
 simp +contextual -implicitDefEqProofs only [K25,SS,rA,rS,rL,rE,reduceCtorEq,z5,if_false,List.length_map]
 refine WC.br (fun h=>?_) (fun h=>?_)
 · have hlen:1 < e.ks.length:=by
    have h2:ltI 1 (e.ks.length:Int)=true:=by
     rcases j5 (ltI 1 (e.ks.length:Int)) with h2|h2
     · exact h2
     · rw [h2,Bool.and_false] at h; cases h
    rw [ltI_eq] at h2
    have:=of_decide_eq_true h2
    omega
   have hl0:((e.ks.length:Int)=0)=False:=by simp; intro hh; rw [hh] at hlen; simp at hlen
   simp +contextual -implicitDefEqProofs only [K25,SS,rA,rS,rL,rE,reduceCtorEq,z5,if_false,List.length_map,hl0]
   refine WC.loopR (fun mm fr st'=>st'=st∧∃ (i:Nat) (kk:Int) (K:List (List Nat)) (Ls:List Val),i≤e.ks.length∧mm=e.ks.length - i∧K.length=Ls.length∧K.length≤i∧(∀ v∈Ls,v∈e.ls)∧fr=[v0,.box [.int .u8 t,.int .u8 d,.int .i32 n,.str s,.list own refs,.int .u8 lack],.box [.str [],.str [],.list true [],.list true []],v3,.box [.str e.t,.str e.id,.list o1 (e.ks.map j6),.list o2 (e.ls.map Val.row)],v5,v6,v7,v8,v9,v10,.int .i64 kk,.list true (K.map j6),.list true (Ls.map Val.row),.int .i64 i,v15,v16]) (m:=e.ks.length) ⟨rfl,0,_,[],[],Nat.zero_le _,rfl,rfl,Nat.le_refl _,by simp,rfl⟩ ?_
   rintro mm fr st' ⟨rfl,i,kk,K,Ls,hi,rfl,hKL,hKi,hsub,rfl⟩
   simp +contextual -implicitDefEqProofs only [K25,SS,rA,rS,rL,rE,reduceCtorEq,List.length_map,ltN]
   by_cases hil:i < e.ks.length
   · have e1:=b2E hil
     have e2:=b3K (ls:=e.ls) (i:=i) (by omega)
     have hm:=List.getElem_mem (l:=e.ls) (n:=i) (by omega)
     revert e1 e2 hm
     generalize e.ks[i]=x
     generalize e.ls[i]=v
     intro e1 e2 hm
     obtain ⟨k1,n1,s1,ks1,ls1,er⟩:=v.row_cells
     rw [er] at e2
     simp +contextual -implicitDefEqProofs only [K25,SS,rA,rS,rL,rE,reduceCtorEq,hil,List.length_map]
     refine WC.br (fun h=>?_) (fun h=>?_)
     · simp +contextual -implicitDefEqProofs only [K25,SS,rA,rS,rL,rE,reduceCtorEq,e1,e2,b78,b0u,List.length_map,D7 (show i+1 < 2 ^ 63 by omega),show (K.length+1)*16≤2 ^ 47 by omega,show (Ls.length+1)*80≤2 ^ 47 by omega]
       refine WC.next (m':=e.ks.length - (i+1)) (by omega) ⟨rfl,i+1,kk,K++[x],Ls++[v],hil,rfl,by simp [hKL],by simp; omega,fun u hu=>?_,by rw [List.map_append,List.map_append,← er]; rfl⟩
       rcases List.mem_append.1 hu with hu|hu
       · exact hsub u hu
       · rw [List.mem_singleton.1 hu]; exact hm
     · simp +contextual -implicitDefEqProofs only [K25,SS,rA,rS,rL,rE,reduceCtorEq,D7 (show i+1 < 2 ^ 63 by omega)]
       exact WC.next (m':=e.ks.length - (i+1)) (by omega) ⟨rfl,i+1,kk,K,Ls,hil,rfl,hKL,by omega,hsub,rfl⟩
   · simp +contextual -implicitDefEqProofs only [K25,SS,rA,rS,rL,rE,reduceCtorEq,hil]
     refine WC.leave ?_
     simp +contextual -implicitDefEqProofs only [K25,SS,rA,rS,rL,rE,reduceCtorEq,List.length_map]
     refine WC.ret ⟨_,_,rfl,rfl,⟨e.t,e.id,K,Ls⟩,rfl,⟨hKL,show K.length≤6 by omega,fun v hv=>hg.sm v (hsub v hv)⟩,rfl,rfl⟩
 · simp +contextual -implicitDefEqProofs only [K25,SS,rA,rS,rL,rE,reduceCtorEq,z5,if_false,List.length_map]
   exact WC.ret ⟨_,_,rfl,rfl,e,rfl,hg,rfl,rfl⟩
def idsL:List (List Nat):=[[97],[98],[99],[100],[101],[49,48],[57],[]]
def idS (d:Int):List Nat:=idsL.getD (d.tmod 8).toNat []
theorem b3j {d:Int} (h0:0≤d):([[.str [97]],[.str [98]],[.str [99]],[.str [100]],[.str [101]],[.str [49,48]],[.str [57]],[.str []]]:List (List AV))[(d.tmod 8).toNat]?=some [.str (idS d)]:=by
 unfold idS
 have h1:0≤d.tmod 8:=Int.tmod_nonneg 8 h0
 have h2:d.tmod 8 < 8:=Int.tmod_lt_of_pos d (by decide)
 obtain ⟨k,hk⟩:∃ k:Nat,d.tmod 8=k:=⟨(d.tmod 8).toNat,by omega⟩
 rw [hk,Int.toNat_natCast]
 have hk8:k < 8:=by omega
 match k,hk8 with
 | 0,_=>rfl
 | 1,_=>rfl
 | 2,_=>rfl
 | 3,_=>rfl
 | 4,_=>rfl
 | 5,_=>rfl
 | 6,_=>rfl
 | 7,_=>rfl
/-- a thing as it is drawn -/
structure Thg where
 t:Int
 d:Int
 n:Int
 s:List Nat
 refs:List Int
 lack:Int
def C9 (r:Int):List AV:=[.int .u8 r]
def Thg.row (x:Thg):List AV:=[.int .u8 x.t,.int .u8 x.d,.int .i32 x.n,.str x.s,.list false (x.refs.map C9),.int .u8 x.lack]
structure Thg.OK (x:Thg):Prop where
 d:0≤x.d
 refs:∀ r∈x.refs,0≤r
 n:-9223372036854775808≤x.n∧x.n < 9223372036854775808
def personK:List (List Nat):=[[97,103,101],[102,114,105,101,110,100,115],[109,111,111,100],[110,97,109,101],[112,101,116],[116,97,103,115]]
def catK:List (List Nat):=[[108,105,118,101,115],[110,97,109,101],[111,119,110,101,114]]
def dogK:List (List Nat):=[[98,97,114,107,115]]
theorem Val.row0 (k n:Int) (s:List Nat):(Val.mk k n s [] []).row=[.int .u8 k,.int .i64 n,.str s,.list false [],.list false []]:=by rw [Val.row_eq]; rfl
theorem Val.rowL (k n:Int) (s:List Nat) (ls:List Val):(Val.mk k n s [] ls).row=[.int .u8 k,.int .i64 n,.str s,.list false [],.list false (ls.map Val.row)]:=by rw [Val.row_eq]; rfl
theorem Q5 {k n:Int} {s:List Nat} (h:k≠6):Small (.mk k n s [] []):=⟨k,n,s,[],rfl,h,by decide,by simp⟩
def a09 (nm:Int) (Ls:List Val) (md:List Nat) (tk tn:Int) (ts:List Nat) (ok:Int) (os:List Nat):List Val:=[.mk 1 nm [] [] [],.mk 5 0 [] [] Ls,.mk 4 0 md [] [],.mk tk tn ts [] [],.mk ok 0 os [] [],.mk 5 0 [] [] [.mk tk tn ts [] [],.mk 0 0 [] [] []]]
theorem a9q {nm:Int} {Ls:List Val} {md:List Nat} {tk tn:Int} {ts:List Nat} {ok:Int} {os t id:List Nat} (htk:tk≠6) (hok:ok≠6) (hL:Ls.length≤6∧∀ u∈Ls,∃ k n s,u=.mk k n s [] []∧k≠6):(⟨t,id,personK,a09 nm Ls md tk tn ts ok os⟩:Ent).Good:=by
 refine ⟨rfl,show personK.length≤6 by decide,fun v hv=>?_⟩
 simp only [a09,List.mem_cons,List.not_mem_nil,or_false] at hv
 rcases hv with rfl|rfl|rfl|rfl|rfl|rfl
 · exact Q5 (by decide)
 · exact ⟨_,_,_,_,rfl,by decide,hL.1,hL.2⟩
 · exact Q5 (by decide)
 · exact Q5 htk
 · exact Q5 hok
 · refine ⟨_,_,_,_,rfl,by decide,by simp,fun u hu=>?_⟩
   simp only [List.mem_cons,List.not_mem_nil,or_false] at hu
   rcases hu with rfl|rfl
   · exact ⟨_,_,_,rfl,htk⟩
   · exact ⟨_,_,_,rfl,by decide⟩
theorem b0S {t d n:Int} {s:List Nat} {own:Bool} {refs:List (List AV)} {lack:Int} (id:List Nat) (tk tn nm ok:Int) (ts os:List Nat) (Ls:List Val) (htk:tk≠6) (hok:ok≠6) (hL:Ls.length≤6∧∀ u∈Ls,∃ k n s,u=.mk k n s [] []∧k≠6) (b1 b2 b3 b4 b5 b6:Bool) (v0 v3 v9:AV) (st:St) :
 WC (fun k=>e7 (j7 tbl k) k a25s121 [v0,.box [.int .u8 t,.int .u8 d,.int .i32 n,.str s,.list own refs,.int .u8 lack],.box [.str [],.str [],.list true [],.list true []],v3,.box [.str [],.str id,.list true [],.list true []],
  .box [.int .u8 tk,.int .i64 tn,.str ts,.list b1 [],.list b2 []],.box [.int .u8 1,.int .i64 nm,.str [],.list true [],.list true []],.box [.int .u8 5,.int .i64 0,.str [],.list b3 [],.list b4 (Ls.map Val.row)],.box [.int .u8 ok,.int .i64 0,.str os,.list b5 [],.list b6 []],v9,.undef,.undef,.undef,.undef,.undef,.undef,.undef] st)
  (fun o=>∃ r st',Go.Cb.finK [.bx 2 true 4] (some o)=some (r,st')∧st'=st∧∃ e':Ent,r=.agg e'.row∧e'.Good∧e'.id=id):=by
 have fin:∀ (e:Ent) (hg:e.Good) (he:e.id=id) (ks ls:List (List AV)) (h1:ks=e.ks.map j6) (h2:ls=e.ls.map Val.row) (o1 o2:Bool) (w0 w3 w5 w6 w7 w8 w9 w10 w11 w12 w13 w14 w15 w16:AV),WC (fun k=>e7 (j7 tbl k) k a25s120 [w0,.box [.int .u8 t,.int .u8 d,.int .i32 n,.str s,.list own refs,.int .u8 lack],.box [.str [],.str [],.list true [],.list true []],w3,.box [.str e.t,.str id,.list o1 ks,.list o2 ls],w5,w6,w7,w8,w9,w10,w11,w12,w13,w14,w15,w16] st)
  (fun o=>∃ r st',Go.Cb.finK [.bx 2 true 4] (some o)=some (r,st')∧st'=st∧∃ e':Ent,r=.agg e'.row∧e'.Good∧e'.id=id):=by
  intro e hg he ks ls h1 h2 o1 o2 w0 w3 w5 w6 w7 w8 w9 w10 w11 w12 w13 w14 w15 w16
  subst h1; subst h2; subst he
  exact (b5t e hg o1 o2 w0 w3 w5 w6 w7 w8 w9 w10 w11 w12 w13 w14 w15 w16 st).mono fun o ⟨r,st',h1,h2,e',h3,h4,h5,_⟩=>⟨r,st',h1,h2,e',h3,h4,h5⟩
 have person:∀ (md:List Nat) (v9 v11 v12 v13 v14 v15 v16:AV) (b7 b8:Bool),WC (fun k=>e7 (j7 tbl k) k a25s120 [v0,.box [.int .u8 t,.int .u8 d,.int .i32 n,.str s,.list own refs,.int .u8 lack],.box [.str [],.str [],.list true [],.list true []],v3,.box [.str [80,101,114,115,111,110],.str id,.list true [[.str [97,103,101]],[.str [102,114,105,101,110,100,115]],[.str [109,111,111,100]],[.str [110,97,109,101]],[.str [112,101,116]],[.str [116,97,103,115]]],.list true [[.int .u8 1,.int .i64 nm,.str [],.list false [],.list false []],[.int .u8 5,.int .i64 0,.str [],.list false [],.list false (Ls.map Val.row)],[.int .u8 4,.int .i64 0,.str md,.list false [],.list false []],[.int .u8 tk,.int .i64 tn,.str ts,.list false [],.list false []],[.int .u8 ok,.int .i64 0,.str os,.list false [],.list false []],[.int .u8 5,.int .i64 0,.str [],.list false [],.list false [[.int .u8 tk,.int .i64 tn,.str ts,.list false [],.list false []],[.int .u8 0,.int .i64 0,.str [],.list false [],.list false []]]]]],
  .box [.int .u8 tk,.int .i64 tn,.str ts,.list b1 [],.list b2 []],.box [.int .u8 1,.int .i64 nm,.str [],.list true [],.list true []],.box [.int .u8 5,.int .i64 0,.str [],.list b3 [],.list b4 (Ls.map Val.row)],.box [.int .u8 ok,.int .i64 0,.str os,.list b5 [],.list b6 []],v9,.box [.int .u8 4,.int .i64 0,.str md,.list b7 [],.list b8 []],v11,v12,v13,v14,v15,v16] st)
  (fun o=>∃ r st',Go.Cb.finK [.bx 2 true 4] (some o)=some (r,st')∧st'=st∧∃ e':Ent,r=.agg e'.row∧e'.Good∧e'.id=id):=fun md v9 v11 v12 v13 v14 v15 v16 b7 b8=>by
  refine fin ⟨[80,101,114,115,111,110],id,personK,a09 nm Ls md tk tn ts ok os⟩ (a9q htk hok hL) rfl _ _ rfl ?_ true true v0 v3 _ _ _ _ _ _ _ _ _ _ _ _
  simp only [a09,List.map_cons,List.map_nil,Val.rowL]
 simp (maxSteps:=1000000) (contextual:=true) (implicitDefEqProofs:=false) only [I7,SS,rA,rS,rL,rE,reduceCtorEq,a25s121.eq_1,Nat.reduceLT,z4,if_false,if_true]
 rcases j5 (eqI (t.tmod 4) 0) with h0|h0
 · simp (maxSteps:=1000000) (contextual:=true) (implicitDefEqProofs:=false) only [I7,SS,rA,rS,rL,rE,reduceCtorEq,h0,Nat.reduceLT,z7,if_false,if_true]
   refine WC.br (fun h7=>?_) (fun h7=>?_)
   · simp (maxSteps:=1000000) (contextual:=true) (implicitDefEqProofs:=false) only [I7,SS,rA,rS,rL,rE,reduceCtorEq,h7,Nat.reduceLT,z7,if_false,if_true]
     exact person _ _ _ _ _ _ _ _ _ _
   · simp (maxSteps:=1000000) (contextual:=true) (implicitDefEqProofs:=false) only [I7,SS,rA,rS,rL,rE,reduceCtorEq,h7,Nat.reduceLT,z7,if_false,if_true]
     exact person _ _ _ _ _ _ _ _ _ _
 rcases j5 (eqI (t.tmod 4) 1) with h1|h1
 · simp (maxSteps:=1000000) (contextual:=true) (implicitDefEqProofs:=false) only [I7,SS,rA,rS,rL,rE,reduceCtorEq,h0,h1,Nat.reduceLT,z7,if_false,if_true]
   refine WC.br (fun h7=>?_) (fun h7=>?_)
   · simp (maxSteps:=1000000) (contextual:=true) (implicitDefEqProofs:=false) only [I7,SS,rA,rS,rL,rE,reduceCtorEq,h7,Nat.reduceLT,z7,if_false,if_true]
     exact person _ _ _ _ _ _ _ _ _ _
   · simp (maxSteps:=1000000) (contextual:=true) (implicitDefEqProofs:=false) only [I7,SS,rA,rS,rL,rE,reduceCtorEq,h7,Nat.reduceLT,z7,if_false,if_true]
     exact person _ _ _ _ _ _ _ _ _ _
 rcases j5 (eqI (t.tmod 4) 2) with h2|h2
 · simp (maxSteps:=1000000) (contextual:=true) (implicitDefEqProofs:=false) only [I7,SS,rA,rS,rL,rE,reduceCtorEq,h0,h1,h2,Nat.reduceLT,z7,if_false,if_true]
   refine fin ⟨[67,97,116],id,catK,[.mk 1 nm [] [] [],.mk tk tn ts [] [],.mk ok 0 os [] []]⟩ ⟨rfl,show catK.length≤6 by decide,fun v hv=>?_⟩ rfl _ _ rfl ?_ true true _ _ _ _ _ _ _ _ _ _ _ _ _ _
   · simp only [List.mem_cons,List.not_mem_nil,or_false] at hv
     rcases hv with rfl|rfl|rfl
     · exact Q5 (by decide)
     · exact Q5 htk
     · exact Q5 hok
   · simp only [List.map_cons,List.map_nil,Val.rowL]
 · simp (maxSteps:=1000000) (contextual:=true) (implicitDefEqProofs:=false) only [I7,SS,rA,rS,rL,rE,reduceCtorEq,h0,h1,h2,Nat.reduceLT,z2,z7,if_false,if_true]
   refine fin ⟨[68,111,103],id,dogK,[.mk 3 (o9 .i64 (lack.tmod 2)) [] [] []]⟩ ⟨rfl,show dogK.length≤6 by decide,fun v hv=>?_⟩ rfl _ _ rfl ?_ true true _ _ _ _ _ _ _ _ _ _ _ _ _ _
   · simp only [List.mem_cons,List.not_mem_nil,or_false] at hv
     rw [hv]
     exact Q5 (by decide)
   · simp only [List.map_cons,List.map_nil,Val.rowL]
theorem a8D {x:Thg} (hx:x.OK) (st:St):EvQ tbl 25 [.agg x.row] st (fun a st'=>st'=st∧∃ e:Ent,a=.agg e.row∧e.Good∧e.id=idS x.d):=by
 obtain ⟨t,d,n,s,refs,lack⟩:=x
 obtain ⟨hd,hr,hn⟩:=hx
 dsimp only at hd hr hn
 have hid:=b3j hd
 have hd0:0≤d.tmod 8:=Int.tmod_nonneg 8 hd
 unfold Thg.row
 refine EvQ.body (fn:=a25) rfl rfl rfl ?_
 simp (maxSteps:=1000000) (contextual:=true) (implicitDefEqProofs:=false) only [I7,SS,rA,rS,rL,rE,reduceCtorEq,Nat.reduceLT,z8,if_false,hid,hd0,if_true,List.length_map,a0O hn.1 hn.2]
 refine WC.loopR (fun mm fr st'=>st'=st∧∃ (i:Nat) (Ls:List Val) (ok:Int) (os:List Nat) (b3 b4 b5 b6:Bool),i≤6∧mm=6 - i∧Ls.length≤i∧(∀ u∈Ls,∃ k n s,u=.mk k n s [] []∧k≠6)∧ok≠6∧fr=[.agg [.int .u8 t,.int .u8 d,.int .i32 n,.str s,.list false (refs.map C9),.int .u8 lack],.box [.int .u8 t,.int .u8 d,.int .i32 n,.str s,.list false (refs.map C9),.int .u8 lack],.box [.str [],.str [],.list true [],.list true []],.list true [[.str [97]],[.str [98]],[.str [99]],[.str [100]],[.str [101]],[.str [49,48]],[.str [57]],[.str []]],.box [.str [],.str (idS d),.list true [],.list true []],
  .box [.int .u8 2,.int .i64 0,.str s,.list true [],.list true []],.box [.int .u8 1,.int .i64 n,.str [],.list true [],.list true []],.box [.int .u8 5,.int .i64 0,.str [],.list b3 [],.list true (Ls.map Val.row)],.box [.int .u8 ok,.int .i64 0,.str os,.list b5 [],.list b6 []],.int .i64 i,.undef,.undef,.undef,.undef,.undef,.undef,.undef]) (m:=6) ⟨rfl,0,[],_,_,_,true,_,_,by decide,rfl,by simp,by simp,by decide,rfl⟩ ?_
 rintro mm fr st' ⟨rfl,i,Ls,ok,os,b3,b4,b5,b6,hi,rfl,hLi,hLs,hok,rfl⟩
 simp +contextual -implicitDefEqProofs only [I7,SS,rA,rS,rL,rE,reduceCtorEq,List.length_map,ltN]
 rcases j5 (decide (i < refs.length) && ltI (i:Int) 6) with hc|hc
 · have hil:i < refs.length:=by
    rw [Bool.and_eq_true] at hc
    exact of_decide_eq_true hc.1
   have hi6:i < 6:=by
    rw [Bool.and_eq_true,ltI_eq] at hc
    have:=of_decide_eq_true hc.2
    omega
   have e1:(refs.map C9)[i]?=some [.int .u8 refs[i]]:=by rw [List.getElem?_map,List.getElem?_eq_getElem hil]; rfl
   have hr0:=hr _ (List.getElem_mem hil)
   revert e1 hr0
   generalize refs[i]=r
   intro e1 hr0
   have hr1:=b3j hr0
   have hr2:0≤r.tmod 8:=Int.tmod_nonneg 8 hr0
   simp (maxSteps:=1000000) (contextual:=true) (implicitDefEqProofs:=false) only [I7,SS,rA,rS,rL,rE,reduceCtorEq,hc,e1,hr1,hr2,z8,if_false,if_true,b0u,List.length_map,D7 (show i+1 < 2 ^ 63 by omega),show (Ls.length+1)*80≤2 ^ 47 by omega]
   refine WC.next (m':=6 - (i+1)) (by omega) ⟨rfl,i+1,Ls++[.mk 8 0 (idS r) [] []],8,_,_,true,_,_,by omega,rfl,by simp; omega,fun u hu=>?_,by decide,by rw [List.map_append,List.map_cons,List.map_nil,Val.row0]⟩
   rcases List.mem_append.1 hu with hu|hu
   · exact hLs u hu
   · exact ⟨_,_,_,List.mem_singleton.1 hu,by decide⟩
 · simp (maxSteps:=1000000) (contextual:=true) (implicitDefEqProofs:=false) only [I7,SS,rA,rS,rL,rE,reduceCtorEq,hc]
   refine WC.leave ?_
   simp (maxSteps:=1000000) (contextual:=true) (implicitDefEqProofs:=false) only [I7,SS,rA,rS,rL,rE,reduceCtorEq,z16,if_false]
   have hL6:Ls.length≤6∧∀ u∈Ls,∃ k n s,u=Val.mk k n s [] []∧k≠6:=⟨by omega,hLs⟩
   refine WC.br (fun h7=>?_) (fun h7=>?_)
   · simp (maxSteps:=1000000) (contextual:=true) (implicitDefEqProofs:=false) only [I7,SS,rA,rS,rL,rE,reduceCtorEq]
     exact b0S (idS d) 1 n n ok [] os Ls (by decide) hok hL6 _ _ _ _ _ _ _ _ _ _
   · simp (maxSteps:=1000000) (contextual:=true) (implicitDefEqProofs:=false) only [I7,SS,rA,rS,rL,rE,reduceCtorEq]
     exact b0S (idS d) 2 0 n ok s os Ls (by decide) hok hL6 _ _ _ _ _ _ _ _ _ _
end Go.Cb.CodeA
