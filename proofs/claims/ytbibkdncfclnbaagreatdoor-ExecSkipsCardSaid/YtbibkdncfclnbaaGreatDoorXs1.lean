import Derived.Test.YtbibkdncfclnbaaGreatDoorC6
set_option maxRecDepth 20000
set_option linter.unusedSimpArgs false
set_option linter.unusedVariables false
namespace Go.Cb.CodeA
open Go Go.Cb
open Nat renaming reduceAdd→rA,reduceSub→rS,reduceLeDiff→rL,reduceEqDiff→rE
attribute [local congr] g8 i7 j0 j1 i6 g9 j5 j4 V.runR_congr
/-- an entity -/
structure Ent where
 t:List Nat
 id:List Nat
 ks:List (List Nat)
 ls:List Val
def Ent.row (e:Ent):List AV:=[.str e.t,.str e.id,.list false (e.ks.map d8),.list false (e.ls.map Val.row)]
/-- a value that is drawn -/
def Small (v:Val):Prop:=∃ k n s ls,v=.mk k n s [] ls∧(k≠6∧(k=0→ls=[]))∧ls.length≤6∧∀ u∈ls,∃ k n s,u=.mk k n s [] []∧k≠6
structure Ent.Good (e:Ent):Prop where
 kl:e.ks.length=e.ls.length
 le:e.ks.length≤6
 sm:∀ v∈e.ls,Small v
theorem a6F {ls:List Val} {i:Nat} (h:i < ls.length):(ls.map Val.row)[i]?=some (ls[i]).row:=by
 rw [List.getElem?_map,List.getElem?_eq_getElem h]; rfl
theorem a6I {ks:List (List Nat)} {i:Nat} (h:i < ks.length):(ks.map d8)[i]?=some [.str ks[i]]:=by
 rw [List.getElem?_map,List.getElem?_eq_getElem h]; rfl
theorem a3n (ks:List (List Nat)):k6 1 (ks.map d8)=true:=T1 fun r hr=>by
 obtain ⟨x,_,rfl⟩:=List.mem_map.1 hr
 rfl
theorem z2:((2:Int)=0)=False:=by simp
theorem z4:((4:Int)=0)=False:=by simp
theorem z5:((5:Int)=0)=False:=by simp
theorem z7:((7:Int)=0)=False:=by simp
theorem z8:((8:Int)=0)=False:=by simp
theorem z16:((16:Int)=0)=False:=by simp
theorem b8P {t d n:Int} {s:List Nat} {own:Bool} {refs:List (List AV)} {lack:Int} (e:Ent) (hg:e.Good) (o1 o2:Bool) (v0 v3 v5 v6 v7 v8 v9 v10 v11 v12 v13 v14 v15 v16:AV) (st:St) :
 WC (fun k=>e9 (k9 tbl k) k a25s120 [v0,.box [.int .u8 t,.int .u8 d,.int .i32 n,.str s,.list own refs,.int .u8 lack],.box [.str [],.str [],.list true [],.list true []],v3,.box [.str e.t,.str e.id,.list o1 (e.ks.map d8),.list o2 (e.ls.map Val.row)],v5,v6,v7,v8,v9,v10,v11,v12,v13,v14,v15,v16] st)
  (fun o=>∃ r st',Go.Cb.finK [.bx 2 true 4] (some o)=some (r,st')∧st'=st∧∃ e':Ent,r=.agg e'.row∧e'.Good∧e'.id=e.id∧e'.t=e.t):=by
 have hkl:=hg.kl
 have hle:=hg.le
 simp +contextual -implicitDefEqProofs only [K25,SS,rA,rS,rL,rE,reduceCtorEq,z5,if_false,List.length_map]
 refine WC.br (fun h=>?_) (fun h=>?_)
 · have hlen:1 < e.ks.length:=by
    have h2:ltI 1 (e.ks.length:Int)=true:=by
     rcases e7 (ltI 1 (e.ks.length:Int)) with h2|h2
     · exact h2
     · rw [h2,Bool.and_false] at h; cases h
    rw [ltI_eq] at h2
    have:=of_decide_eq_true h2
    omega
   have hl0:((e.ks.length:Int)=0)=False:=by simp; intro hh; rw [hh] at hlen; simp at hlen
   simp +contextual -implicitDefEqProofs only [K25,SS,rA,rS,rL,rE,reduceCtorEq,z5,if_false,List.length_map,hl0]
   refine WC.loopR (fun mm fr st'=>st'=st∧∃ (i:Nat) (kk:Int) (K:List (List Nat)) (Ls:List Val),i≤e.ks.length∧mm=e.ks.length - i∧K.length=Ls.length∧K.length≤i∧(∀ v∈Ls,v∈e.ls)∧fr=[v0,.box [.int .u8 t,.int .u8 d,.int .i32 n,.str s,.list own refs,.int .u8 lack],.box [.str [],.str [],.list true [],.list true []],v3,.box [.str e.t,.str e.id,.list o1 (e.ks.map d8),.list o2 (e.ls.map Val.row)],v5,v6,v7,v8,v9,v10,.int .i64 kk,.list true (K.map d8),.list true (Ls.map Val.row),.int .i64 i,v15,v16]) (m:=e.ks.length) ⟨rfl,0,_,[],[],Nat.zero_le _,rfl,rfl,Nat.le_refl _,by simp,rfl⟩ ?_
   rintro mm fr st' ⟨rfl,i,kk,K,Ls,hi,rfl,hKL,hKi,hsub,rfl⟩
   simp +contextual -implicitDefEqProofs only [K25,SS,rA,rS,rL,rE,reduceCtorEq,List.length_map,ltN]
   by_cases hil:i < e.ks.length
   · have e1:=a6I hil
     have e2:=a6F (ls:=e.ls) (i:=i) (by omega)
     have hm:=List.getElem_mem (l:=e.ls) (n:=i) (by omega)
     revert e1 e2 hm
     generalize e.ks[i]=x
     generalize e.ls[i]=v
     intro e1 e2 hm
     obtain ⟨k1,n1,s1,ks1,ls1,er⟩:=v.row_cells
     rw [er] at e2
     simp +contextual -implicitDefEqProofs only [K25,SS,rA,rS,rL,rE,reduceCtorEq,hil,List.length_map]
     refine WC.br (fun h=>?_) (fun h=>?_)
     · simp +contextual -implicitDefEqProofs only [K25,SS,rA,rS,rL,rE,reduceCtorEq,e1,e2,a1k,a0u,List.length_map,r8 (show i+1 < 2 ^ 63 by omega),show (K.length+1)*16≤2 ^ 47 by omega,show (Ls.length+1)*80≤2 ^ 47 by omega]
       refine WC.next (m':=e.ks.length - (i+1)) (by omega) ⟨rfl,i+1,kk,K++[x],Ls++[v],hil,rfl,by simp [hKL],by simp; omega,fun u hu=>?_,by rw [List.map_append,List.map_append,← er]; rfl⟩
       rcases List.mem_append.1 hu with hu|hu
       · exact hsub u hu
       · rw [List.mem_singleton.1 hu]; exact hm
     · simp +contextual -implicitDefEqProofs only [K25,SS,rA,rS,rL,rE,reduceCtorEq,r8 (show i+1 < 2 ^ 63 by omega)]
       exact WC.next (m':=e.ks.length - (i+1)) (by omega) ⟨rfl,i+1,kk,K,Ls,hil,rfl,hKL,by omega,hsub,rfl⟩
   · simp +contextual -implicitDefEqProofs only [K25,SS,rA,rS,rL,rE,reduceCtorEq,hil]
     refine WC.leave ?_
     simp +contextual -implicitDefEqProofs only [K25,SS,rA,rS,rL,rE,reduceCtorEq,List.length_map]
     refine WC.ret ⟨_,_,rfl,rfl,⟨e.t,e.id,K,Ls⟩,rfl,⟨hKL,show K.length≤6 by omega,fun v hv=>hg.sm v (hsub v hv)⟩,rfl,rfl⟩
 · simp +contextual -implicitDefEqProofs only [K25,SS,rA,rS,rL,rE,reduceCtorEq,z5,if_false,List.length_map]
   exact WC.ret ⟨_,_,rfl,rfl,e,rfl,hg,rfl,rfl⟩
def idsL:List (List Nat):=[[97],[98],[99],[100],[101],[49,48],[57],[]]
def idS (d:Int):List Nat:=idsL.getD (d.tmod 8).toNat []
theorem b5V {d:Int} (h0:0≤d):([[.str [97]],[.str [98]],[.str [99]],[.str [100]],[.str [101]],[.str [49,48]],[.str [57]],[.str []]]:List (List AV))[(d.tmod 8).toNat]?=some [.str (idS d)]:=by
 unfold idS
 have h1:0≤d.tmod 8:=Int.tmod_nonneg 8 h0
 have h2:d.tmod 8 < 8:=Int.tmod_lt_of_pos d (by decide)
 obtain ⟨k,hk⟩:∃ k:Nat,d.tmod 8=k:=⟨(d.tmod 8).toNat,by omega⟩
 rw [hk,Int.toNat_natCast]
 have hk8:k < 8:=by omega
 match k,hk8 with
 | 0,_=>rfl
 | 1,_=>rfl
 | 2,_=>rfl
 | 3,_=>rfl
 | 4,_=>rfl
 | 5,_=>rfl
 | 6,_=>rfl
 | 7,_=>rfl
/-- a thing as it is drawn -/
structure Thg where
 t:Int
 d:Int
 n:Int
 s:List Nat
 refs:List Int
 lack:Int
def a0m (r:Int):List AV:=[.int .u8 r]
def Thg.row (x:Thg):List AV:=[.int .u8 x.t,.int .u8 x.d,.int .i32 x.n,.str x.s,.list false (x.refs.map a0m),.int .u8 x.lack]
structure Thg.OK (x:Thg):Prop where
 d:0≤x.d
 refs:∀ r∈x.refs,0≤r
 n:-9223372036854775808≤x.n∧x.n < 9223372036854775808
def personK:List (List Nat):=[[97,103,101],[102,114,105,101,110,100,115],[109,111,111,100],[110,97,109,101],[112,101,116],[116,97,103,115]]
def catK:List (List Nat):=[[108,105,118,101,115],[110,97,109,101],[111,119,110,101,114]]
def dogK:List (List Nat):=[[98,97,114,107,115]]
theorem Val.row0 (k n:Int) (s:List Nat):(Val.mk k n s [] []).row=[.int .u8 k,.int .i64 n,.str s,.list false [],.list false []]:=by rw [Val.row_eq]; rfl
theorem Val.rowL (k n:Int) (s:List Nat) (ls:List Val):(Val.mk k n s [] ls).row=[.int .u8 k,.int .i64 n,.str s,.list false [],.list false (ls.map Val.row)]:=by rw [Val.row_eq]; rfl
theorem Z1 {k n:Int} {s:List Nat} (h:k≠6):Small (.mk k n s [] []):=⟨k,n,s,[],rfl,⟨h,fun _=>rfl⟩,by decide,by simp⟩
def a3q (nm:Int) (Ls:List Val) (md:List Nat) (tk tn:Int) (ts:List Nat) (ok:Int) (os:List Nat):List Val:=[.mk 1 nm [] [] [],.mk 5 0 [] [] Ls,.mk 4 0 md [] [],.mk tk tn ts [] [],.mk ok 0 os [] [],.mk 5 0 [] [] [.mk tk tn ts [] [],.mk 0 0 [] [] []]]
theorem b16 {nm:Int} {Ls:List Val} {md:List Nat} {tk tn:Int} {ts:List Nat} {ok:Int} {os t id:List Nat} (htk:tk≠6) (hok:ok≠6) (hL:Ls.length≤6∧∀ u∈Ls,∃ k n s,u=.mk k n s [] []∧k≠6):(⟨t,id,personK,a3q nm Ls md tk tn ts ok os⟩:Ent).Good:=by
 refine ⟨rfl,show personK.length≤6 by decide,fun v hv=>?_⟩
 simp only [a3q,List.mem_cons,List.not_mem_nil,or_false] at hv
 rcases hv with rfl|rfl|rfl|rfl|rfl|rfl
 · exact Z1 (by decide)
 · exact ⟨_,_,_,_,rfl,⟨by decide,fun h=>absurd h (by decide)⟩,hL.1,hL.2⟩
 · exact Z1 (by decide)
 · exact Z1 htk
 · exact Z1 hok
 · refine ⟨_,_,_,_,rfl,⟨by decide,fun h=>absurd h (by decide)⟩,by simp,fun u hu=>?_⟩
   simp only [List.mem_cons,List.not_mem_nil,or_false] at hu
   rcases hu with rfl|rfl
   · exact ⟨_,_,_,rfl,htk⟩
   · exact ⟨_,_,_,rfl,by decide⟩
theorem b2Q {t d n:Int} {s:List Nat} {own:Bool} {refs:List (List AV)} {lack:Int} (id:List Nat) (tk tn nm ok:Int) (ts os:List Nat) (Ls:List Val) (htk:tk≠6) (hok:ok≠6) (hL:Ls.length≤6∧∀ u∈Ls,∃ k n s,u=.mk k n s [] []∧k≠6) (b1 b2 b3 b4 b5 b6:Bool) (v0 v3 v9:AV) (st:St) :
 WC (fun k=>e9 (k9 tbl k) k a25s121 [v0,.box [.int .u8 t,.int .u8 d,.int .i32 n,.str s,.list own refs,.int .u8 lack],.box [.str [],.str [],.list true [],.list true []],v3,.box [.str [],.str id,.list true [],.list true []],
  .box [.int .u8 tk,.int .i64 tn,.str ts,.list b1 [],.list b2 []],.box [.int .u8 1,.int .i64 nm,.str [],.list true [],.list true []],.box [.int .u8 5,.int .i64 0,.str [],.list b3 [],.list b4 (Ls.map Val.row)],.box [.int .u8 ok,.int .i64 0,.str os,.list b5 [],.list b6 []],v9,.undef,.undef,.undef,.undef,.undef,.undef,.undef] st)
  (fun o=>∃ r st',Go.Cb.finK [.bx 2 true 4] (some o)=some (r,st')∧st'=st∧∃ e':Ent,r=.agg e'.row∧e'.Good∧e'.id=id):=by
 have fin:∀ (e:Ent) (hg:e.Good) (he:e.id=id) (ks ls:List (List AV)) (h1:ks=e.ks.map d8) (h2:ls=e.ls.map Val.row) (o1 o2:Bool) (w0 w3 w5 w6 w7 w8 w9 w10 w11 w12 w13 w14 w15 w16:AV),WC (fun k=>e9 (k9 tbl k) k a25s120 [w0,.box [.int .u8 t,.int .u8 d,.int .i32 n,.str s,.list own refs,.int .u8 lack],.box [.str [],.str [],.list true [],.list true []],w3,.box [.str e.t,.str id,.list o1 ks,.list o2 ls],w5,w6,w7,w8,w9,w10,w11,w12,w13,w14,w15,w16] st)
  (fun o=>∃ r st',Go.Cb.finK [.bx 2 true 4] (some o)=some (r,st')∧st'=st∧∃ e':Ent,r=.agg e'.row∧e'.Good∧e'.id=id):=by
  intro e hg he ks ls h1 h2 o1 o2 w0 w3 w5 w6 w7 w8 w9 w10 w11 w12 w13 w14 w15 w16
  subst h1; subst h2; subst he
  exact (b8P e hg o1 o2 w0 w3 w5 w6 w7 w8 w9 w10 w11 w12 w13 w14 w15 w16 st).mono fun o ⟨r,st',h1,h2,e',h3,h4,h5,_⟩=>⟨r,st',h1,h2,e',h3,h4,h5⟩
 have person:∀ (md:List Nat) (v9 v11 v12 v13 v14 v15 v16:AV) (b7 b8:Bool),WC (fun k=>e9 (k9 tbl k) k a25s120 [v0,.box [.int .u8 t,.int .u8 d,.int .i32 n,.str s,.list own refs,.int .u8 lack],.box [.str [],.str [],.list true [],.list true []],v3,.box [.str [80,101,114,115,111,110],.str id,.list true [[.str [97,103,101]],[.str [102,114,105,101,110,100,115]],[.str [109,111,111,100]],[.str [110,97,109,101]],[.str [112,101,116]],[.str [116,97,103,115]]],.list true [[.int .u8 1,.int .i64 nm,.str [],.list false [],.list false []],[.int .u8 5,.int .i64 0,.str [],.list false [],.list false (Ls.map Val.row)],[.int .u8 4,.int .i64 0,.str md,.list false [],.list false []],[.int .u8 tk,.int .i64 tn,.str ts,.list false [],.list false []],[.int .u8 ok,.int .i64 0,.str os,.list false [],.list false []],[.int .u8 5,.int .i64 0,.str [],.list false [],.list false [[.int .u8 tk,.int .i64 tn,.str ts,.list false [],.list false []],[.int .u8 0,.int .i64 0,.str [],.list false [],.list false []]]]]],
  .box [.int .u8 tk,.int .i64 tn,.str ts,.list b1 [],.list b2 []],.box [.int .u8 1,.int .i64 nm,.str [],.list true [],.list true []],.box [.int .u8 5,.int .i64 0,.str [],.list b3 [],.list b4 (Ls.map Val.row)],.box [.int .u8 ok,.int .i64 0,.str os,.list b5 [],.list b6 []],v9,.box [.int .u8 4,.int .i64 0,.str md,.list b7 [],.list b8 []],v11,v12,v13,v14,v15,v16] st)
  (fun o=>∃ r st',Go.Cb.finK [.bx 2 true 4] (some o)=some (r,st')∧st'=st∧∃ e':Ent,r=.agg e'.row∧e'.Good∧e'.id=id):=fun md v9 v11 v12 v13 v14 v15 v16 b7 b8=>by
  refine fin ⟨[80,101,114,115,111,110],id,personK,a3q nm Ls md tk tn ts ok os⟩ (b16 htk hok hL) rfl _ _ rfl ?_ true true v0 v3 _ _ _ _ _ _ _ _ _ _ _ _
  simp only [a3q,List.map_cons,List.map_nil,Val.rowL]
 simp (maxSteps:=1000000) (contextual:=true) (implicitDefEqProofs:=false) only [N7,SS,rA,rS,rL,rE,reduceCtorEq,a25s121.eq_1,Nat.reduceLT,z4,if_false,if_true]
 rcases e7 (eqI (t.tmod 4) 0) with h0|h0
 · simp (maxSteps:=1000000) (contextual:=true) (implicitDefEqProofs:=false) only [N7,SS,rA,rS,rL,rE,reduceCtorEq,h0,Nat.reduceLT,z7,if_false,if_true]
   refine WC.br (fun h7=>?_) (fun h7=>?_)
   · simp (maxSteps:=1000000) (contextual:=true) (implicitDefEqProofs:=false) only [N7,SS,rA,rS,rL,rE,reduceCtorEq,h7,Nat.reduceLT,z7,if_false,if_true]
     exact person _ _ _ _ _ _ _ _ _ _
   · simp (maxSteps:=1000000) (contextual:=true) (implicitDefEqProofs:=false) only [N7,SS,rA,rS,rL,rE,reduceCtorEq,h7,Nat.reduceLT,z7,if_false,if_true]
     exact person _ _ _ _ _ _ _ _ _ _
 rcases e7 (eqI (t.tmod 4) 1) with h1|h1
 · simp (maxSteps:=1000000) (contextual:=true) (implicitDefEqProofs:=false) only [N7,SS,rA,rS,rL,rE,reduceCtorEq,h0,h1,Nat.reduceLT,z7,if_false,if_true]
   refine WC.br (fun h7=>?_) (fun h7=>?_)
   · simp (maxSteps:=1000000) (contextual:=true) (implicitDefEqProofs:=false) only [N7,SS,rA,rS,rL,rE,reduceCtorEq,h7,Nat.reduceLT,z7,if_false,if_true]
     exact person _ _ _ _ _ _ _ _ _ _
   · simp (maxSteps:=1000000) (contextual:=true) (implicitDefEqProofs:=false) only [N7,SS,rA,rS,rL,rE,reduceCtorEq,h7,Nat.reduceLT,z7,if_false,if_true]
     exact person _ _ _ _ _ _ _ _ _ _
 rcases e7 (eqI (t.tmod 4) 2) with h2|h2
 · simp (maxSteps:=1000000) (contextual:=true) (implicitDefEqProofs:=false) only [N7,SS,rA,rS,rL,rE,reduceCtorEq,h0,h1,h2,Nat.reduceLT,z7,if_false,if_true]
   refine fin ⟨[67,97,116],id,catK,[.mk 1 nm [] [] [],.mk tk tn ts [] [],.mk ok 0 os [] []]⟩ ⟨rfl,show catK.length≤6 by decide,fun v hv=>?_⟩ rfl _ _ rfl ?_ true true _ _ _ _ _ _ _ _ _ _ _ _ _ _
   · simp only [List.mem_cons,List.not_mem_nil,or_false] at hv
     rcases hv with rfl|rfl|rfl
     · exact Z1 (by decide)
     · exact Z1 htk
     · exact Z1 hok
   · simp only [List.map_cons,List.map_nil,Val.rowL]
 · simp (maxSteps:=1000000) (contextual:=true) (implicitDefEqProofs:=false) only [N7,SS,rA,rS,rL,rE,reduceCtorEq,h0,h1,h2,Nat.reduceLT,z2,z7,if_false,if_true]
   refine fin ⟨[68,111,103],id,dogK,[.mk 3 (n5 .i64 (lack.tmod 2)) [] [] []]⟩ ⟨rfl,show dogK.length≤6 by decide,fun v hv=>?_⟩ rfl _ _ rfl ?_ true true _ _ _ _ _ _ _ _ _ _ _ _ _ _
   · simp only [List.mem_cons,List.not_mem_nil,or_false] at hv
     rw [hv]
     exact Z1 (by decide)
   · simp only [List.map_cons,List.map_nil,Val.rowL]
theorem b8b {x:Thg} (hx:x.OK) (st:St):EvQ tbl 25 [.agg x.row] st (fun a st'=>st'=st∧∃ e:Ent,a=.agg e.row∧e.Good∧e.id=idS x.d):=by
 obtain ⟨t,d,n,s,refs,lack⟩:=x
 obtain ⟨hd,hr,hn⟩:=hx
 dsimp only at hd hr hn
 have hid:=b5V hd
 have hd0:0≤d.tmod 8:=Int.tmod_nonneg 8 hd
 unfold Thg.row
 refine EvQ.body (fn:=a25) rfl rfl rfl ?_
 simp (maxSteps:=1000000) (contextual:=true) (implicitDefEqProofs:=false) only [N7,SS,rA,rS,rL,rE,reduceCtorEq,Nat.reduceLT,z8,if_false,hid,hd0,if_true,List.length_map,a2x hn.1 hn.2]
 refine WC.loopR (fun mm fr st'=>st'=st∧∃ (i:Nat) (Ls:List Val) (ok:Int) (os:List Nat) (b3 b4 b5 b6:Bool),i≤6∧mm=6 - i∧Ls.length≤i∧(∀ u∈Ls,∃ k n s,u=.mk k n s [] []∧k≠6)∧ok≠6∧fr=[.agg [.int .u8 t,.int .u8 d,.int .i32 n,.str s,.list false (refs.map a0m),.int .u8 lack],.box [.int .u8 t,.int .u8 d,.int .i32 n,.str s,.list false (refs.map a0m),.int .u8 lack],.box [.str [],.str [],.list true [],.list true []],.list true [[.str [97]],[.str [98]],[.str [99]],[.str [100]],[.str [101]],[.str [49,48]],[.str [57]],[.str []]],.box [.str [],.str (idS d),.list true [],.list true []],
  .box [.int .u8 2,.int .i64 0,.str s,.list true [],.list true []],.box [.int .u8 1,.int .i64 n,.str [],.list true [],.list true []],.box [.int .u8 5,.int .i64 0,.str [],.list b3 [],.list true (Ls.map Val.row)],.box [.int .u8 ok,.int .i64 0,.str os,.list b5 [],.list b6 []],.int .i64 i,.undef,.undef,.undef,.undef,.undef,.undef,.undef]) (m:=6) ⟨rfl,0,[],_,_,_,true,_,_,by decide,rfl,by simp,by simp,by decide,rfl⟩ ?_
 rintro mm fr st' ⟨rfl,i,Ls,ok,os,b3,b4,b5,b6,hi,rfl,hLi,hLs,hok,rfl⟩
 simp +contextual -implicitDefEqProofs only [N7,SS,rA,rS,rL,rE,reduceCtorEq,List.length_map,ltN]
 rcases e7 (decide (i < refs.length) && ltI (i:Int) 6) with hc|hc
 · have hil:i < refs.length:=by
    rw [Bool.and_eq_true] at hc
    exact of_decide_eq_true hc.1
   have hi6:i < 6:=by
    rw [Bool.and_eq_true,ltI_eq] at hc
    have:=of_decide_eq_true hc.2
    omega
   have e1:(refs.map a0m)[i]?=some [.int .u8 refs[i]]:=by rw [List.getElem?_map,List.getElem?_eq_getElem hil]; rfl
   have hr0:=hr _ (List.getElem_mem hil)
   revert e1 hr0
   generalize refs[i]=r
   intro e1 hr0
   have hr1:=b5V hr0
   have hr2:0≤r.tmod 8:=Int.tmod_nonneg 8 hr0
   simp (maxSteps:=1000000) (contextual:=true) (implicitDefEqProofs:=false) only [N7,SS,rA,rS,rL,rE,reduceCtorEq,hc,e1,hr1,hr2,z8,if_false,if_true,a0u,List.length_map,r8 (show i+1 < 2 ^ 63 by omega),show (Ls.length+1)*80≤2 ^ 47 by omega]
   refine WC.next (m':=6 - (i+1)) (by omega) ⟨rfl,i+1,Ls++[.mk 8 0 (idS r) [] []],8,_,_,true,_,_,by omega,rfl,by simp; omega,fun u hu=>?_,by decide,by rw [List.map_append,List.map_cons,List.map_nil,Val.row0]⟩
   rcases List.mem_append.1 hu with hu|hu
   · exact hLs u hu
   · exact ⟨_,_,_,List.mem_singleton.1 hu,by decide⟩
 · simp (maxSteps:=1000000) (contextual:=true) (implicitDefEqProofs:=false) only [N7,SS,rA,rS,rL,rE,reduceCtorEq,hc]
   refine WC.leave ?_
   simp (maxSteps:=1000000) (contextual:=true) (implicitDefEqProofs:=false) only [N7,SS,rA,rS,rL,rE,reduceCtorEq,z16,if_false]
   have hL6:Ls.length≤6∧∀ u∈Ls,∃ k n s,u=Val.mk k n s [] []∧k≠6:=⟨by omega,hLs⟩
   refine WC.br (fun h7=>?_) (fun h7=>?_)
   · simp (maxSteps:=1000000) (contextual:=true) (implicitDefEqProofs:=false) only [N7,SS,rA,rS,rL,rE,reduceCtorEq]
     exact b2Q (idS d) 1 n n ok [] os Ls (by decide) hok hL6 _ _ _ _ _ _ _ _ _ _
   · simp (maxSteps:=1000000) (contextual:=true) (implicitDefEqProofs:=false) only [N7,SS,rA,rS,rL,rE,reduceCtorEq]
     exact b2Q (idS d) 2 0 n ok s os Ls (by decide) hok hL6 _ _ _ _ _ _ _ _ _ _
end Go.Cb.CodeA
set_option maxRecDepth 20000
set_option linter.unusedSimpArgs false
set_option linter.unusedVariables false
namespace Go.Cb.CodeA
open Go Go.Cb
open Nat renaming reduceAdd→rA,reduceSub→rS,reduceLeDiff→rL,reduceEqDiff→rE
attribute [local congr] g8 i7 j0 j1 i6 g9 j5 j4 V.runR_congr
theorem b3n (a b:List Nat):eqN a b=true ↔ a=b:=by rw [a1B]; simp
theorem a0J (a:List Nat):eqN a a=true:=(b3n a a).2 rfl
theorem b1a:∀ a b:List Nat,l9 a b=false→l9 b a=false→a=b
 | [],[],_,_=>rfl
 | [],b::y,h,_=>by simp [l9] at h
 | a::x,[],_,h=>by simp [l9] at h
 | a::x,b::y,h1,h2=>by
  simp only [l9,Bool.or_eq_false_iff,Bool.and_eq_false_iff,Nat.blt_eq,Bool.not_eq_true] at h1 h2
  obtain ⟨h1,h3⟩:=h1
  obtain ⟨h2,h4⟩:=h2
  have e1:¬ a < b:=fun h=>by
   have:Nat.blt a b=true:=by simpa [Nat.blt_eq] using h
   rw [this] at h1; cases h1
  have e2:¬ b < a:=fun h=>by
   have:Nat.blt b a=true:=by simpa [Nat.blt_eq] using h
   rw [this] at h2; cases h2
  obtain rfl:a=b:=by omega
  have hb:Nat.beq a a=true:=by simp
  rw [hb] at h3 h4
  rcases h3 with h3|h3
  · cases h3
  rcases h4 with h4|h4
  · cases h4
  rw [b1a x y h3 h4]
theorem a0f:∀ a b c:List Nat,l9 a b=true→l9 b c=true→l9 a c=true
 | _,[],_,h,_=>by simp [l9] at h
 | _,_::_,[],_,h=>by simp [l9] at h
 | [],_::_,_::_,_,_=>rfl
 | a::x,b::y,c::z,h1,h2=>by
  simp only [l9,Bool.or_eq_true,Bool.and_eq_true,Nat.blt_eq,Nat.beq_eq] at h1 h2 ⊢
  rcases h1 with h1|⟨h1,h3⟩
  · rcases h2 with h2|⟨h2,_⟩
    · left; omega
    · left; omega
  · rcases h2 with h2|⟨h2,h4⟩
    · left; omega
    · right; exact ⟨by omega,a0f x y z h3 h4⟩
def j7 (es:List Ent):List AV:=es.flatMap Ent.row
theorem a1c (es:List Ent):∀ i,(j7 es).drop (i*4)=j7 (es.drop i):=by
 induction es with
 | nil=>intro i; simp [j7]
 | cons e es ih =>
  intro i
  cases i with
  | zero=>rw [Nat.zero_mul,List.drop_zero,List.drop_zero]
  | succ i =>
   rw [List.drop_succ_cons,← ih i,show (i+1)*4=i*4+4 by omega,← List.drop_drop,show j7 (e::es)=e.row++j7 es from rfl]
   rw [List.drop_drop,show i*4+4=4+i*4 by omega,← List.drop_drop]
   rfl
theorem a0l (es:List Ent):(j7 es).length=es.length*4:=by
 induction es with
 | nil=>rfl
 | cons e es ih=>rw [show j7 (e::es)=e.row++j7 es from rfl,List.length_append,ih,List.length_cons]; simp [Ent.row]; omega
theorem a6p (a b:List Ent):j7 (a++b)=j7 a++j7 b:=by simp [j7]
theorem a8j {es:List Ent} {i:Nat} (h:i < es.length):j3 true 4 ((j7 es).drop (i*4))=some (.agg es[i].row):=by
 rw [a1c,List.drop_eq_getElem_cons h]
 rfl
/-- entities as an object of the store -/
def EntsAt (v:AV) (es:List Ent) (st:St):Prop:=(v=.nils∧es=[])∨∃ o,v=.sl o 0 es.length 4∧st[o]?=some (.cells (j7 es))
theorem b81 (l:List Thg) (h:∀ x∈l,x.OK) (st:St):EvQ tbl 15 [.list false (l.map Thg.row)] st (fun a st'=>st'=st∧∃ es:List Ent,a=.list false (es.map Ent.row)∧es.length≤12∧∀ e∈es,e.Good):=by
 refine EvQ.body (fn:=a15) rfl rfl rfl ?_
 simp +contextual -implicitDefEqProofs only [K15,SS,rA,rS,rL,rE,reduceCtorEq]
 refine WC.loopR (fun mm fr st'=>st'=st∧∃ (i:Nat) (es:List Ent),i≤12∧mm=12 - i∧es.length≤i∧(∀ e∈es,e.Good)∧fr=[.list false (l.map Thg.row),.list true [],.list true (es.map Ent.row),.int .i64 i]) (m:=12) ⟨rfl,0,[],by decide,rfl,by simp,by simp,rfl⟩ ?_
 rintro mm fr st' ⟨rfl,i,es,hi,rfl,hle,hg,rfl⟩
 simp +contextual -implicitDefEqProofs only [K15,SS,rA,rS,rL,rE,reduceCtorEq,List.length_map,ltN]
 rcases e7 (decide (i < l.length) && ltI (i:Int) 12) with hc|hc
 · have hil:i < l.length:=by
    rw [Bool.and_eq_true] at hc
    exact of_decide_eq_true hc.1
   have hi6:i < 12:=by
    rw [Bool.and_eq_true,ltI_eq] at hc
    have:=of_decide_eq_true hc.2
    omega
   have e1:(l.map Thg.row)[i]?=some l[i].row:=by rw [List.getElem?_map,List.getElem?_eq_getElem hil]; rfl
   have hx:=h _ (List.getElem_mem hil)
   revert e1 hx
   generalize l[i]=x
   intro e1 hx
   have hq:=b8b hx st'
   have ex:x.row=[.int .u8 x.t,.int .u8 x.d,.int .i32 x.n,.str x.s,.list false (x.refs.map a0m),.int .u8 x.lack]:=rfl
   rw [ex] at e1 hq
   simp +contextual -implicitDefEqProofs only [K15,SS,rA,rS,rL,rE,reduceCtorEq,hc,e1]
   refine WC.call hq rfl rfl ?_
   rintro _ _ ⟨rfl,e,rfl,he,_⟩
   have hro:k6 4 (es.map Ent.row)=true:=T1 fun r hr=>by
    obtain ⟨v,_,rfl⟩:=List.mem_map.1 hr
    rfl
   have ee:e.row=[.str e.t,.str e.id,.list false (e.ks.map d8),.list false (e.ls.map Val.row)]:=rfl
   rw [ee]
   simp +contextual -implicitDefEqProofs only [K15,SS,rA,rS,rL,rE,reduceCtorEq,hro,List.length_map,r8 (show i+1 < 2 ^ 63 by omega),show (es.length+1)*80≤2 ^ 47 by omega]
   refine WC.next (m':=12 - (i+1)) (by omega) ⟨rfl,i+1,es++[e],by omega,rfl,by simp; omega,fun u hu=>?_,by rw [List.map_append]; rfl⟩
   rcases List.mem_append.1 hu with hu|hu
   · exact hg u hu
   · rw [List.mem_singleton.1 hu]; exact he
 · simp +contextual -implicitDefEqProofs only [K15,SS,rA,rS,rL,rE,reduceCtorEq,hc]
   refine WC.leave ?_
   simp +contextual -implicitDefEqProofs only [K15,SS,rA,rS,rL,rE,reduceCtorEq]
   exact WC.ret ⟨_,_,rfl,rfl,es,rfl,by omega,hg⟩
end Go.Cb.CodeA
set_option maxRecDepth 20000
set_option linter.unusedSimpArgs false
set_option linter.unusedVariables false
namespace Go.Cb.CodeA
open Go Go.Cb
open Nat renaming reduceAdd→rA,reduceSub→rS,reduceLeDiff→rL,reduceEqDiff→rE
attribute [local congr] g8 i7 j0 j1 i6 g9 j5 j4 V.runR_congr
theorem c5v (a b:List Nat):l6 .gtr (.str a) (.str b)=some (.bool !(l9 a b || eqN a b)):=a8 rfl
theorem Ent.row_w (e:Ent):List.map AV.weak1 e.row=e.row:=rfl
def a4H (a b:List Nat):Int:=if l9 a b then -1 else if eqN a b then 0 else 1
theorem c0h (e:Ent) (id:List Nat) (st:St):EvQ tbl 93 [.agg e.row,.str id] st (fun a st'=>st'=st∧a=.int .i64 (a4H e.id id)):=by
 have ee:e.row=[.str e.t,.str e.id,.list false (e.ks.map d8),.list false (e.ls.map Val.row)]:=rfl
 rw [ee]
 refine EvQ.body (fn:=a93) rfl rfl rfl ?_
 simp +contextual -implicitDefEqProofs only [K93,SS,rA,rS,rL,rE,reduceCtorEq]
 rcases e7 (l9 e.id id) with h|h
 · simp +contextual -implicitDefEqProofs only [K93,SS,rA,rS,rL,rE,reduceCtorEq,h]
   exact WC.ret ⟨_,_,rfl,rfl,by rw [a4H,if_pos h]; rfl⟩
 rcases e7 (eqN e.id id) with h2|h2
 · simp +contextual -implicitDefEqProofs only [K93,SS,rA,rS,rL,rE,reduceCtorEq,h,h2,c5v,Bool.false_or,Bool.not_true,Bool.not_false]
   exact WC.ret ⟨_,_,rfl,rfl,by rw [a4H,h,if_neg (by decide),if_pos h2]; rfl⟩
 · simp +contextual -implicitDefEqProofs only [K93,SS,rA,rS,rL,rE,reduceCtorEq,h,h2,c5v,Bool.false_or,Bool.not_true,Bool.not_false]
   exact WC.ret ⟨_,_,rfl,rfl,by rw [a4H,h,if_neg (by decide),h2,if_neg (by decide)]; rfl⟩
abbrev M1 (es:List Ent):Prop:=es.Pairwise fun a b=>l9 a.id b.id=true
/-- where a name stands, or would stand -/
def A9 (id:List Nat):List Ent→Nat
 | []=>0
 | e::es=>if l9 e.id id then A9 id es+1 else 0
def L3 (id:List Nat) (es:List Ent):Bool:=match es[A9 id es]? with
 | some e=>eqN e.id id
 | none=>false
theorem b2H (id:List Nat):∀ es:List Ent,A9 id es≤es.length
 | []=>Nat.le_refl _
 | e::es=>by
  rw [A9]
  split
  · have:=b2H id es; rw [List.length_cons]; omega
  · omega
theorem b3v (id:List Nat):∀ (es:List Ent) (i:Nat),i≤es.length→(∀ k (h:k < es.length),k < i→l9 es[k].id id=true)→(∀ h:i < es.length,l9 es[i].id id=false)→A9 id es=i
 | [],i,h,_,_=>by simp at h; subst h; rfl
 | e::es,0,_,_,h2=>by rw [A9,show l9 e.id id=false from h2 (by simp)]; rfl
 | e::es,i+1,h,h1,h2=>by
  have h0:l9 e.id id=true:=h1 0 (by simp) (by omega)
  rw [A9,if_pos h0]
  rw [b3v id es i (by simpa using h) (fun k hk hki=>h1 (k+1) (by simpa using hk) (by omega)) (fun hi=>h2 (by simpa using hi))]
theorem a4y {es:List Ent} {o:Nat} {st:St} (h:st[o]?=some (.cells (j7 es))) {i:Nat} (hi:i < es.length) (call:b9) (bx:AV):E8 true 4 call [.ptr o (i*4)] bx st=some (.agg es[i].row,bx,st):=by
 rw [R.ldAn_ptr,h]
 dsimp only
 rw [a8j hi]
 rfl
theorem d0u {i j:Nat} (h:i+j < 2 ^ 62):n5 .i64 (Int.fdiv (n5 .u64 (n5 .i64 (a7C (i:Int) (j:Int)))) 2)=(((i+j) / 2:Nat):Int):=by
 have e1:n5 .i64 ((i:Int)+(j:Int))=(i:Int)+(j:Int):=a2x (by omega) (by omega)
 rw [addI_eq,e1]
 have:n5 .u64 ((i:Int)+(j:Int))=(i:Int)+(j:Int):=by
  rw [O5]
  simp only [IntKind.wrap,IntKind.signed,IntKind.bits,Bool.false_and,Bool.false_eq_true,if_false]
  omega
 rw [this]
 have e:Int.fdiv ((i:Int)+(j:Int)) 2=(((i+j) / 2:Nat):Int):=by
  rw [Int.fdiv_eq_ediv_of_nonneg _ (by omega)]
  omega
 rw [e,a2x (by omega) (by omega)]
theorem d4u (a:Int):l6 .shr (.int .u64 a) (.int .u64 1)=some (.int .u64 (Int.fdiv a 2)):=by
 have:(2:Int) ^ (min (1:Int).toNat IntKind.u64.bits)=2:=by decide
 simp only [l6]
 rw [this]
 rfl
theorem b9c {es:List Ent} {v:AV} {st:St} (h:EntsAt v es st) (hs:M1 es) (hl:es.length≤100000) (id:List Nat):EvQ tbl 92 [v,.str id,.func 93 [] []] st (fun a st'=>st'=st∧a=.tuple [.int .i64 (A9 id es),.bool (L3 id es)]):=by
 rcases h with ⟨rfl,rfl⟩|⟨o,rfl,ho⟩
 · refine EvQ.body (fn:=a92) rfl rfl rfl ?_
   simp +contextual -implicitDefEqProofs only [K92,SS,rA,rS,rL,rE,reduceCtorEq]
   refine WC.loopR (fun mm fr st'=>st'=st∧fr=[.nils,.str id,.func 93 [] [],.int .i64 0,.bool false,.int .i64 0,.int .i64 0,.int .i64 0,.undef]) (m:=0) ⟨rfl,rfl⟩ ?_
   rintro mm fr st' ⟨rfl,rfl⟩
   simp +contextual -implicitDefEqProofs only [K92,SS,rA,rS,rL,rE,reduceCtorEq,show ltI 0 0=false from rfl]
   refine WC.leave ?_
   simp +contextual -implicitDefEqProofs only [K92,SS,rA,rS,rL,rE,reduceCtorEq,show ltI 0 0=false from rfl]
   exact WC.ret ⟨_,_,rfl,rfl,rfl⟩
 · refine EvQ.body (fn:=a92) rfl rfl rfl ?_
   simp +contextual -implicitDefEqProofs only [K92,SS,rA,rS,rL,rE,reduceCtorEq]
   refine WC.loopR (fun mm fr st'=>st'=st∧∃ (i j:Nat) (v8:AV),i≤j∧j≤es.length∧mm=j - i∧(∀ k (h:k < es.length),k < i→l9 es[k].id id=true)∧(∀ k (h:k < es.length),j≤k→l9 es[k].id id=false)∧fr=[.sl o 0 es.length 4,.str id,.func 93 [] [],.int .i64 0,.bool false,.int .i64 es.length,.int .i64 i,.int .i64 j,v8]) (m:=es.length) ⟨rfl,0,es.length,_,Nat.zero_le _,Nat.le_refl _,by omega,fun k _ hk=>absurd hk (Nat.not_lt_zero _),fun k h1 h2=>by omega,rfl⟩ ?_
   rintro mm fr st' ⟨rfl,i,j,v8,hij,hj,rfl,h1,h2,rfl⟩
   simp +contextual -implicitDefEqProofs only [K92,SS,rA,rS,rL,rE,reduceCtorEq,ltN]
   by_cases hlt:i < j
   · have hm:(i+j) / 2 < es.length:=by omega
     have hlo:i≤(i+j) / 2:=by omega
     have hhi:(i+j) / 2 < j:=by omega
     have hmid:=d0u (i:=i) (j:=j) (by omega)
     have hld:=fun call bx=>a4y ho hm call bx
     have hcq:=c0h (es[(i+j) / 2]) id st'
     have hlow:l9 es[(i+j) / 2].id id=true→∀ k (h:k < es.length),k < (i+j) / 2+1→l9 es[k].id id=true:=fun hh k hk hki=>by
      by_cases e:k=(i+j) / 2
      · subst e; exact hh
      · exact a0f _ _ _ (List.pairwise_iff_getElem.1 hs k ((i+j) / 2) hk hm (by omega)) hh
     have hhigh:l9 es[(i+j) / 2].id id=false→∀ k (h:k < es.length),(i+j) / 2≤k→l9 es[k].id id=false:=fun hh k hk hki=>by
      by_cases e:k=(i+j) / 2
      · subst e; exact hh
      · rcases e7 (l9 es[k].id id) with h3|h3
        · have:=a0f _ _ _ (List.pairwise_iff_getElem.1 hs ((i+j) / 2) k hm hk (by omega)) h3
          rw [hh] at this; cases this
        · exact h3
     revert hld hcq hlow hhigh hmid
     generalize hmm:(i+j) / 2=m at *
     generalize es[m]=e
     intro hmid hld hcq hlow hhigh
     have hml:((m:Int) < (es.length:Int))=True:=by simp; omega
     simp +contextual -implicitDefEqProofs only [K92,SS,rA,rS,rL,rE,reduceCtorEq,hlt,ltN,d4u,hmid,hml,if_true,hld,Ent.row_w]
     refine WC.callV hcq rfl rfl ?_
     rintro _ _ ⟨rfl,rfl⟩
     unfold a4H
     rcases e7 (l9 e.id id) with hq|hq
     · simp +contextual -implicitDefEqProofs only [K92,SS,rA,rS,rL,rE,reduceCtorEq,hq,if_true,show ltI (-1) 0=true from rfl,r8 (show m+1 < 2 ^ 63 by omega)]
       exact WC.next (m':=j - (m+1)) (by omega) ⟨rfl,m+1,j,_,by omega,hj,rfl,hlow hq,h2,rfl⟩
     · have:ltI (if eqN e.id id=true then 0 else 1) 0=false:=by split <;> rfl
       simp +contextual -implicitDefEqProofs only [K92,SS,rA,rS,rL,rE,reduceCtorEq,hq,if_false,this,Bool.false_eq_true]
       exact WC.next (m':=m - i) (by omega) ⟨rfl,i,m,_,by omega,by omega,rfl,h1,hhigh hq,rfl⟩
   · simp +contextual -implicitDefEqProofs only [K92,SS,rA,rS,rL,rE,reduceCtorEq,hlt,ltN]
     refine WC.leave ?_
     obtain rfl:i=j:=by omega
     have hpe:A9 id es=i:=b3v id es i hj h1 (fun h=>h2 i h (Nat.le_refl _))
     by_cases hil:i < es.length
     · have hld:=fun call bx=>a4y ho hil call bx
       have hcq:=c0h (es[i]) id st'
       have hle:=h2 i hil (Nat.le_refl _)
       have hhe:L3 id es=eqN es[i].id id:=by rw [L3,hpe,List.getElem?_eq_getElem hil]
       have hml:((i:Int) < (es.length:Int))=True:=by simp; omega
       rw [hpe,hhe]
       revert hld hcq hle
       generalize es[i]=e
       intro hld hcq hle
       simp +contextual -implicitDefEqProofs only [K92,SS,rA,rS,rL,rE,reduceCtorEq,hil,ltN,hml,if_true,hld,Ent.row_w]
       refine WC.callV hcq rfl rfl ?_
       rintro _ _ ⟨rfl,rfl⟩
       simp +contextual -implicitDefEqProofs only [K92,SS,rA,rS,rL,rE,reduceCtorEq]
       refine WC.ret ⟨_,_,rfl,rfl,?_⟩
       have:eqI (a4H e.id id) 0=eqN e.id id:=by
        unfold a4H
        rw [hle,if_neg (by decide)]
        cases eqN e.id id <;> rfl
       rw [this]
       rfl
     · have hhe:L3 id es=false:=by rw [L3,hpe,List.getElem?_eq_none (by omega)]
       rw [hpe,hhe]
       simp +contextual -implicitDefEqProofs only [K92,SS,rA,rS,rL,rE,reduceCtorEq,hil,ltN]
       exact WC.ret ⟨_,_,rfl,rfl,rfl⟩
end Go.Cb.CodeA
set_option maxRecDepth 20000
set_option linter.unusedSimpArgs false
set_option linter.unusedVariables false
namespace Go.Cb.CodeA
open Go Go.Cb
open Nat renaming reduceAdd→rA,reduceSub→rS,reduceLeDiff→rL,reduceEqDiff→rE
attribute [local congr] g8 i7 j0 j1 i6 g9 j5 j4 V.runR_congr
theorem a4B (es:List Ent):(j7 es).map AV.weak1=j7 es:=by
 induction es with
 | nil=>rfl
 | cons e es ih=>rw [show j7 (e::es)=e.row++j7 es from rfl,List.map_append,ih]; rfl
theorem EntsAt.gr {v:AV} {es:List Ent} {st st':St} (h:EntsAt v es st) (hg:Gr st st'):EntsAt v es st':=by
 rcases h with h|⟨o,h1,h2⟩
 · exact .inl h
 · exact .inr ⟨o,h1,hg o _ h2⟩
theorem EntsAt.wk {v:AV} {es:List Ent} {st:St} (h:EntsAt v es st):v.weak=v∧v.weak1=v∧v.strip=v∧v.stripB=v∧v.plain=true∧v.cells=[v]∧v.cellsW=[v]:=by
 rcases h with ⟨rfl,_⟩|⟨o,rfl,_⟩ <;> exact ⟨rfl,rfl,rfl,rfl,rfl,rfl,rfl⟩
theorem b64 (st:St):EvQ tbl 47 [.nils] st (fun a st'=>a=.nils∧st'=st):=EvQ.of_ext (fn:=a47) rfl rfl (r:=(.nils,st)) rfl ⟨rfl,rfl⟩
theorem b9U {es:List Ent} {o:Nat} {st:St} (h:st[o]?=some (.cells (j7 es))) (hl:es.length≤100000):EvQ tbl 47 [.sl o 0 es.length 4] st (fun a st'=>a=.sl st.length 0 es.length 4∧st'=st++[.cells (j7 es)]):=by
 refine EvQ.of_ext (fn:=a47) (e:=a0y 4 80) (r:=(.sl st.length 0 es.length 4,st++[.cells (j7 es)])) rfl rfl ?_ ⟨rfl,rfl⟩
 unfold a0y
 dsimp only
 rw [h]
 dsimp only
 rw [if_pos ⟨rfl,by rw [a0l]; omega,by omega⟩,List.drop_zero,← a0l,List.take_length,a4B]
theorem b8a (x:Ent) (st:St):EvQ tbl 88 [.nils,.int .i64 0,.list false [x.row]] st (fun a st'=>a=.sl st.length 0 1 4∧st'=st++[.cells (j7 [x])]) :=
 EvQ.of_ext (fn:=a88) (e:=S4 4 80) (r:=(.sl st.length 0 1 4,st++[.cells (j7 [x])])) rfl rfl (by unfold S4; dsimp only; rw [if_pos ⟨rfl,rfl⟩]; rfl) ⟨rfl,rfl⟩
theorem a3W (es:List Ent):∀ i,(j7 es).take (i*4)=j7 (es.take i):=by
 induction es with
 | nil=>intro i; simp [j7]
 | cons e es ih =>
  intro i
  cases i with
  | zero=>rw [Nat.zero_mul,List.take_zero,List.take_zero]; rfl
  | succ i =>
   rw [List.take_succ_cons,show j7 (e::es)=e.row++j7 es from rfl,show j7 (e::es.take i)=e.row++j7 (es.take i) from rfl,← ih i,show (i+1)*4=i*4+4 by omega]
   rfl
theorem c27 {es:List Ent} {o:Nat} {st:St} (x:Ent) (h:st[o]?=some (.cells (j7 es))) (hl:es.length≤100000) {i:Nat} (hi:i≤es.length):EvQ tbl 88 [.sl o 0 es.length 4,.int .i64 i,.list false [x.row]] st (fun a st'=>a=.sl st.length 0 (es.length+1) 4∧st'=st.set o .dead++[.cells (j7 (es.take i++x::es.drop i))]):=by
 refine EvQ.of_ext (fn:=a88) (e:=S4 4 80) (r:=(.sl st.length 0 (es.length+1) 4,st.set o .dead++[.cells (j7 (es.take i++x::es.drop i))])) rfl rfl ?_ ⟨rfl,rfl⟩
 simp only [S4,h]
 rw [if_pos ⟨trivial,by omega,by omega,a0l es,rfl,by omega⟩,Int.toNat_natCast,J3,a3W,a1c,a6p]
 rw [show j7 (x::es.drop i)=x.row++j7 (es.drop i) from rfl,List.map_append,List.map_append,a4B,a4B,List.append_assoc]
 rfl
theorem b1M {es:List Ent} {v:AV} {st:St} (h:EntsAt v es st) (hs:M1 es) (hl:es.length≤100000) (id:List Nat):EvQ tbl 48 [.agg [v],.str id] st (fun a st'=>st'=st∧a=.tuple [.int .i64 (A9 id es),.bool (L3 id es)]):=by
 obtain ⟨w1,w2,w3,w4,w5,w6,w7⟩:=h.wk
 refine EvQ.body (fn:=a48) rfl rfl rfl ?_
 simp +contextual -implicitDefEqProofs only [K48,SS,rA,rS,rL,rE,reduceCtorEq,w1,w2,w3,w4,w5,w6,w7]
 refine WC.call (b9c h hs hl id) (by simp only [s7,w5]; rfl) (by simp only [List.map_cons,List.map_nil,w1]; rfl) ?_
 rintro _ _ ⟨rfl,rfl⟩
 simp +contextual -implicitDefEqProofs only [K48,SS,rA,rS,rL,rE,reduceCtorEq]
 exact WC.ret ⟨_,_,rfl,rfl,rfl⟩
/-- the entities with one more, or in the place of that of its name -/
def J2 (es:List Ent) (x:Ent):List Ent:=if L3 x.id es then es.set (A9 x.id es) x else es.take (A9 x.id es)++x::es.drop (A9 x.id es)
theorem b23 {id:List Nat} {es:List Ent} (h:L3 id es=true):A9 id es < es.length:=by
 unfold L3 at h
 cases hq:es[A9 id es]? with
 | none=>rw [hq] at h; cases h
 | some e=>exact (List.getElem?_eq_some_iff.1 hq).1
theorem c1J {es:List Ent} (x:Ent):∀ {i:Nat},i < es.length→p7 (j7 es) (i*4) x.row=j7 (es.set i x):=by
 intro i hi
 unfold p7
 rw [show x.row.length=4 from rfl,a3W,show i*4+4=(i+1)*4 by omega,a1c,List.set_eq_take_append_cons_drop,if_pos hi,a6p,List.append_assoc]
 rfl
theorem c3O {es:List Ent} {v:AV} {st:St} (h:EntsAt v es st) (hs:M1 es) (hl:es.length≤100000) (x:Ent):EvQ tbl 40 [.agg [v],.agg x.row] st (fun a st'=>∃ v',a=.agg [v']∧EntsAt v' (J2 es x) st'∧Gr st st'):=by
 obtain ⟨w1,w2,w3,w4,w5,w6,w7⟩:=h.wk
 have ex:x.row=[.str x.t,.str x.id,.list false (x.ks.map d8),.list false (x.ls.map Val.row)]:=rfl
 rw [ex]
 refine EvQ.body (fn:=a40) rfl rfl rfl ?_
 simp +contextual -implicitDefEqProofs only [K40,SS,rA,rS,rL,rE,reduceCtorEq,w1,w2,w3,w4,w5,w6,w7]
 rcases h with ⟨rfl,rfl⟩|⟨o,rfl,ho⟩
 · refine WC.call (b64 st) rfl rfl ?_
   rintro _ _ ⟨rfl,rfl⟩
   simp +contextual -implicitDefEqProofs only [K40,SS,rA,rS,rL,rE,reduceCtorEq]
   refine WC.call (b1M (.inl ⟨rfl,rfl⟩) hs hl x.id) rfl rfl ?_
   rintro _ st ⟨rfl,rfl⟩
   simp +contextual -implicitDefEqProofs only [K40,SS,rA,rS,rL,rE,reduceCtorEq,show L3 x.id []=false from rfl,show A9 x.id []=0 from rfl]
   have hi:=b8a x st
   rw [ex] at hi
   refine WC.call hi rfl rfl ?_
   rintro _ _ ⟨rfl,rfl⟩
   simp +contextual -implicitDefEqProofs only [K40,SS,rA,rS,rL,rE,reduceCtorEq]
   exact WC.ret ⟨_,_,rfl,_,rfl,.inr ⟨_,rfl,m9 st _⟩,Gr.app _ _⟩
 · refine WC.call (b9U ho hl) rfl rfl ?_
   rintro _ _ ⟨rfl,rfl⟩
   simp +contextual -implicitDefEqProofs only [K40,SS,rA,rS,rL,rE,reduceCtorEq]
   refine WC.call (b1M (.inr ⟨o,rfl,Gr.app st _ _ _ ho⟩) hs hl x.id) rfl rfl ?_
   rintro _ _ ⟨rfl,rfl⟩
   simp +contextual -implicitDefEqProofs only [K40,SS,rA,rS,rL,rE,reduceCtorEq]
   refine WC.br (fun hh=>?_) (fun hh=>?_)
   · have hlt:=b23 hh
     have hml:((A9 x.id es:Int) < (es.length:Int))=True:=by simp; omega
     have hnew:=m9 st (.cells (j7 es))
     have hseg:=c1J x hlt
     rw [ex] at hseg
     have hfit:A9 x.id es*4+4≤(j7 es).length:=by rw [a0l]; omega
     simp +contextual -implicitDefEqProofs only [K40,SS,rA,rS,rL,rE,reduceCtorEq,hml,if_true,hnew,hfit,hseg,L4]
     refine WC.ret ⟨_,_,rfl,_,rfl,.inr ⟨st.length,by rw [J2,if_pos hh,List.length_set]; rfl,by rw [J2,if_pos hh,← hseg]; exact m9 st _⟩,Gr.app _ _⟩
   · have hp:=b2H x.id es
     have hi:=c27 x (m9 st (.cells (j7 es))) hl hp
     rw [ex] at hi
     simp +contextual -implicitDefEqProofs only [K40,SS,rA,rS,rL,rE,reduceCtorEq]
     refine WC.call hi rfl rfl ?_
     rintro _ _ ⟨rfl,rfl⟩
     simp +contextual -implicitDefEqProofs only [K40,SS,rA,rS,rL,rE,reduceCtorEq,L4]
     have hlen:(es.take (A9 x.id es)++x::es.drop (A9 x.id es)).length=es.length+1:=by simp; omega
     have e1:(st++[Cb.Obj.cells (j7 es)]).length=st.length+1:=by simp
     refine WC.ret ⟨_,_,rfl,_,rfl,.inr ⟨st.length+1,?_,?_⟩,fun i y hy=>?_⟩
     · rw [J2,if_neg (by rw [hh]; decide),hlen,e1]; rfl
     · rw [J2,if_neg (by rw [hh]; decide)]
       simp
     · exact Gr.app _ _ _ _ (Gr.app st _ _ _ hy)
end Go.Cb.CodeA
/- What functions of the abstract machine answer. No conditions but those that each theorem names. -/
set_option maxRecDepth 20000
set_option linter.unusedSimpArgs false
set_option linter.unusedVariables false
namespace Go.Cb.CodeA
open Go Go.Cb
open Nat renaming reduceAdd→rA,reduceSub→rS,reduceLeDiff→rL,reduceEqDiff→rE
attribute [local congr] g8 i7 j0 j1 i6 g9 j5 j4 V.runR_congr
theorem c2D {e:Ent} {id:List Nat} (h:l9 e.id id=true) (es:List Ent):A9 id (e::es)=A9 id es+1∧L3 id (e::es)=L3 id es:=by
 have hp:A9 id (e::es)=A9 id es+1:=by rw [A9,if_pos h]
 refine ⟨hp,?_⟩
 unfold L3
 rw [hp,List.getElem?_cons_succ]
theorem c2k {e:Ent} {id:List Nat} (h:l9 e.id id=false) (es:List Ent):A9 id (e::es)=0∧L3 id (e::es)=eqN e.id id:=by
 have hp:A9 id (e::es)=0:=by rw [A9,h]; rfl
 refine ⟨hp,?_⟩
 unfold L3
 rw [hp,List.getElem?_cons_zero]
theorem a6g (e:Ent) (es:List Ent) (x:Ent):J2 (e::es) x=if l9 e.id x.id then e::J2 es x else if eqN e.id x.id then x::es else x::e::es:=by
 unfold J2
 rcases e7 (l9 e.id x.id) with h|h
 · obtain ⟨h1,h2⟩:=c2D h es
   rw [h1,h2,if_pos h]
   split
   · rw [List.set_cons_succ]
   · rw [List.take_succ_cons,List.drop_succ_cons]; rfl
 · obtain ⟨h1,h2⟩:=c2k h es
   simp only [h1,h2,h,Bool.false_eq_true,if_false]
   rfl
theorem a8g (x:Ent):J2 [] x=[x]:=rfl
theorem a8V {es:List Ent} {x y:Ent} (h:y∈J2 es x):y=x∨y∈es:=by
 induction es with
 | nil=>rw [a8g] at h; exact .inl (List.mem_singleton.1 h)
 | cons e es ih =>
  rw [a6g] at h
  split at h
  · rcases List.mem_cons.1 h with h|h
    · exact .inr (h ▸ List.mem_cons_self ..)
    · exact (ih h).imp id (List.mem_cons_of_mem _)
  · split at h
    · rcases List.mem_cons.1 h with h|h
      · exact .inl h
      · exact .inr (List.mem_cons_of_mem _ h)
    · exact List.mem_cons.1 h
theorem a9n {a b c:List Nat} (h:eqN a b=true) (h2:l9 a c=true):l9 b c=true:=by rw [← (b3n a b).1 h]; exact h2
theorem b0q {es:List Ent} (hs:M1 es) (x:Ent):M1 (J2 es x):=by
 induction es with
 | nil=>rw [a8g]; exact List.pairwise_singleton _ _
 | cons e es ih =>
  rw [a6g]
  obtain ⟨h1,h2⟩:=List.pairwise_cons.1 hs
  rcases e7 (l9 e.id x.id) with h|h
  · rw [if_pos h]
    refine List.pairwise_cons.2 ⟨fun y hy=>?_,ih h2⟩
    rcases a8V hy with rfl|hy
    · exact h
    · exact h1 y hy
  · rw [if_neg (by rw [h]; decide)]
    rcases e7 (eqN e.id x.id) with h3|h3
    · rw [if_pos h3]
      exact List.pairwise_cons.2 ⟨fun y hy=>a9n h3 (h1 y hy),h2⟩
    · rw [if_neg (by rw [h3]; decide)]
      have h4:l9 x.id e.id=true:=by
       rcases e7 (l9 x.id e.id) with h4|h4
       · exact h4
       · rw [b1a _ _ h h4,a0J] at h3; cases h3
      refine List.pairwise_cons.2 ⟨fun y hy=>?_,hs⟩
      rcases List.mem_cons.1 hy with rfl|hy
      · exact h4
      · exact a0f _ _ _ h4 (h1 y hy)
theorem b7c (es:List Ent) (x:Ent):(J2 es x).length≤es.length+1:=by
 unfold J2
 split
 · rw [List.length_set]; omega
 · simp; omega
def ofE (l:List Ent):List Ent:=l.foldl J2 []
theorem b0Z (l:List Ent) (x:Ent):ofE (l++[x])=J2 (ofE l) x:=by unfold ofE; rw [List.foldl_append]; rfl
theorem b7R {α:Type} {P:List α→Prop} (h0:P []) (h1:∀ l x,P l→P (l++[x])) (l:List α):P l:=by
 have:∀ m:List α,P m.reverse:=by
  intro m
  induction m with
  | nil=>exact h0
  | cons x m ih=>rw [List.reverse_cons]; exact h1 _ _ ih
 have:=this l.reverse
 rwa [List.reverse_reverse] at this
theorem b5H (l:List Ent):M1 (ofE l)∧(ofE l).length≤l.length∧∀ y∈ofE l,y∈l:=by
 refine b7R (P:=fun l=>M1 (ofE l)∧(ofE l).length≤l.length∧∀ y∈ofE l,y∈l) ⟨List.Pairwise.nil,Nat.le_refl _,fun y hy=>by cases hy⟩ (fun l x ih=>?_) l
 obtain ⟨h1,h2,h3⟩:=ih
 rw [b0Z]
 refine ⟨b0q h1 x,by have:=b7c (ofE l) x; rw [List.length_append]; simp; omega,fun y hy=>?_⟩
 rcases a8V hy with rfl|hy
 · exact List.mem_append_right _ (by simp)
 · exact List.mem_append_left _ (h3 y hy)
theorem c36 {es:List Ent} {i:Nat} (h:i < es.length):(es.map Ent.row)[i]?=some (es[i]).row:=by
 rw [List.getElem?_map,List.getElem?_eq_getElem h]; rfl
theorem d4q (l:List Ent) (hl:l.length≤100000) (st:St):EvQ tbl 18 [.list false (l.map Ent.row)] st (fun a st'=>∃ v,a=.agg [v]∧EntsAt v (ofE l) st'∧Gr st st'):=by
 refine EvQ.body (fn:=a18) rfl rfl rfl ?_
 simp +contextual -implicitDefEqProofs only [K18,SS,rA,rS,rL,rE,reduceCtorEq,List.length_map]
 refine WC.loopR (fun mm fr st'=>Gr st st'∧∃ (i:Nat) (v v3:AV),i≤l.length∧mm=l.length - i∧EntsAt v (ofE (l.take i)) st'∧fr=[.list false (l.map Ent.row),.box [.nils],.box [v],v3,.list false (l.map Ent.row),.int .i64 l.length,.int .i64 i]) (m:=l.length) ⟨Gr.refl st,0,_,_,Nat.zero_le _,rfl,.inl ⟨rfl,rfl⟩,rfl⟩ ?_
 rintro mm fr st' ⟨hg,i,v,v3,hi,rfl,hv,rfl⟩
 obtain ⟨w1,w2,w3,w4,w5,w6,w7⟩:=hv.wk
 simp +contextual -implicitDefEqProofs only [K18,SS,rA,rS,rL,rE,reduceCtorEq,ltN,w1,w2,w3,w4,w5,w6,w7]
 by_cases hil:i < l.length
 · have e1:=c36 hil
   have hof:ofE (l.take (i+1))=J2 (ofE (l.take i)) l[i]:=by
    rw [List.take_add_one,List.getElem?_eq_getElem hil]
    exact b0Z _ _
   obtain ⟨hs,hle,_⟩:=b5H (l.take i)
   have hw:=c3O hv hs (by rw [List.length_take] at hle; omega) l[i]
   revert e1 hof hw
   generalize l[i]=x
   intro e1 hof hw
   have ex:x.row=[.str x.t,.str x.id,.list false (x.ks.map d8),.list false (x.ls.map Val.row)]:=rfl
   rw [ex] at e1 hw
   simp +contextual -implicitDefEqProofs only [K18,SS,rA,rS,rL,rE,reduceCtorEq,hil,e1,w1,w2,w3,w4,w5,w6,w7]
   refine WC.call hw (by simp only [R.allPlain_c,R.allPlain_n,R.plain_agg]; rfl) (by simp only [List.map_cons,List.map_nil,L6,w2]; rfl) ?_
   rintro _ st2 ⟨v',rfl,hv',hg'⟩
   obtain ⟨u1,u2,u3,u4,u5,u6,u7⟩:=hv'.wk
   simp +contextual -implicitDefEqProofs only [K18,SS,rA,rS,rL,rE,reduceCtorEq,u1,u2,u3,u4,u5,u6,u7,r8 (show i+1 < 2 ^ 63 by omega)]
   exact WC.next (m':=l.length - (i+1)) (by omega) ⟨hg.trans hg',i+1,v',_,hil,rfl,hof ▸ hv',rfl⟩
 · rw [List.take_of_length_le (by omega)] at hv
   simp +contextual -implicitDefEqProofs only [K18,SS,rA,rS,rL,rE,reduceCtorEq,hil]
   refine WC.leave ?_
   simp +contextual -implicitDefEqProofs only [K18,SS,rA,rS,rL,rE,reduceCtorEq,w1,w2,w3,w4,w5,w6,w7]
   exact WC.ret ⟨_,_,rfl,v,by simp only [List.take_succ_cons,List.take_zero,List.map_cons,List.map_nil,w2],hv,hg⟩
end Go.Cb.CodeA
set_option maxRecDepth 20000
set_option linter.unusedSimpArgs false
set_option linter.unusedVariables false
namespace Go.Cb.CodeA
open Go Go.Cb
open Nat renaming reduceAdd→rA,reduceSub→rS,reduceLeDiff→rL,reduceEqDiff→rE
attribute [local congr] g8 i7 j0 j1 i6 g9 j5 j4 V.runR_congr
theorem a2h (n:Int):eqI n n=true:=by rw [eqI_eq]; simp
/-- a value with no more names or values than a slice may have -/
inductive Val.Fin:Val→Prop
 | mk (k n:Int) (s:List Nat) (ks:List (List Nat)) (ls:List Val) (hk:ks.length < 2 ^ 62) (hl:ls.length < 2 ^ 62) (h:∀ v∈ls,Val.Fin v):Val.Fin (.mk k n s ks ls)
theorem c4A {v:Val} (h:v.Fin):∀ st:St,EvQ tbl 21 [.agg v.row,.agg v.row] st (fun a st'=>st'=st∧a=.bool true):=by
 induction h with
 | mk k n s ks ls hk hl h ih =>
  intro st
  rw [Val.row_eq]
  refine EvQ.body (fn:=a21) rfl rfl rfl ?_
  simp +contextual -implicitDefEqProofs only [K21,SS,rA,rS,rL,rE,reduceCtorEq,a2h,a0J,Bool.not_true,List.length_map]
  refine WC.loopR (fun mm fr st'=>st'=st∧∃ (i:Nat),i≤ks.length∧mm=ks.length - i∧fr=[.agg [.int .u8 k,.int .i64 n,.str s,.list false (ks.map d8),.list false (ls.map Val.row)],.agg [.int .u8 k,.int .i64 n,.str s,.list false (ks.map d8),.list false (ls.map Val.row)],.box [.int .u8 k,.int .i64 n,.str s,.list false (ks.map d8),.list false (ls.map Val.row)],.box [.int .u8 k,.int .i64 n,.str s,.list false (ks.map d8),.list false (ls.map Val.row)],.bool false,.int .i64 i,.undef]) (m:=ks.length) ⟨rfl,0,Nat.zero_le _,rfl,rfl⟩ ?_
  rintro mm fr st' ⟨rfl,i,hi,rfl,rfl⟩
  by_cases hil:i < ks.length
  · have e2:=a6I hil
    simp +contextual -implicitDefEqProofs only [K21,SS,rA,rS,rL,rE,reduceCtorEq,List.length_map,hil,e2,a0J,Bool.not_true,r8 (show i+1 < 2 ^ 63 by omega)]
    exact WC.next (m':=ks.length - (i+1)) (by omega) ⟨rfl,i+1,hil,rfl,rfl⟩
  simp +contextual -implicitDefEqProofs only [K21,SS,rA,rS,rL,rE,reduceCtorEq,List.length_map,hil]
  refine WC.leave ?_
  simp +contextual -implicitDefEqProofs only [K21,SS,rA,rS,rL,rE,reduceCtorEq]
  refine WC.loopR (fun mm fr st''=>st''=st'∧∃ (j:Nat),j≤ls.length∧mm=ls.length - j∧fr=[.agg [.int .u8 k,.int .i64 n,.str s,.list false (ks.map d8),.list false (ls.map Val.row)],.agg [.int .u8 k,.int .i64 n,.str s,.list false (ks.map d8),.list false (ls.map Val.row)],.box [.int .u8 k,.int .i64 n,.str s,.list false (ks.map d8),.list false (ls.map Val.row)],.box [.int .u8 k,.int .i64 n,.str s,.list false (ks.map d8),.list false (ls.map Val.row)],.bool false,.int .i64 i,.int .i64 j]) (m:=ls.length) ⟨rfl,0,Nat.zero_le _,rfl,rfl⟩ ?_
  rintro mm fr st'' ⟨rfl,j,hj,rfl,rfl⟩
  by_cases hjl:j < ls.length
  · have e2:=a6F hjl
    have ih1:=ih _ (List.getElem_mem hjl)
    revert e2 ih1
    generalize ls[j]=u
    intro e2 ih1
    obtain ⟨k1,n1,s1,ks1,ls1,e1⟩:=u.row_cells
    rw [e1] at e2
    simp only [e1] at ih1
    simp +contextual -implicitDefEqProofs only [K21,SS,rA,rS,rL,rE,reduceCtorEq,List.length_map,hjl,e2]
    refine WC.call (ih1 _) rfl rfl ?_
    rintro _ _ ⟨rfl,rfl⟩
    simp +contextual -implicitDefEqProofs only [K21,SS,rA,rS,rL,rE,reduceCtorEq,Bool.not_true,r8 (show j+1 < 2 ^ 63 by omega)]
    exact WC.next (m':=ls.length - (j+1)) (by omega) ⟨rfl,j+1,hjl,rfl,rfl⟩
  · simp +contextual -implicitDefEqProofs only [K21,SS,rA,rS,rL,rE,reduceCtorEq,List.length_map,hjl]
    refine WC.leave ?_
    simp +contextual -implicitDefEqProofs only [K21,SS,rA,rS,rL,rE,reduceCtorEq]
    exact WC.ret ⟨_,_,rfl,rfl,rfl⟩
theorem Small.fin {v:Val} (h:Small v):v.Fin:=by
 obtain ⟨k,n,s,ls,rfl,_,hl,hu⟩:=h
 refine .mk _ _ _ _ _ (by decide) (by omega) fun u hu'=>?_
 obtain ⟨k,n,s,rfl,_⟩:=hu u hu'
 exact .mk _ _ _ _ _ (by decide) (by decide) fun u hu=>by cases hu
theorem b4O {es:List Ent} {i:Nat} (h:i < es.length):(4≤(List.drop (i*4) (j7 es)).length)=True∧List.map AV.weak1 (List.take 4 (List.drop (i*4) (j7 es)))=es[i].row:=by
 have h4:=a8j h
 rw [R.takeVal_t] at h4
 split at h4
 · rename_i hl
   exact ⟨by simpa using hl,by simpa using h4⟩
 · cases h4
def Ent.none:Ent:=⟨[],[],[],[]⟩
def Z5 (es:List Ent) (id:List Nat):Option Ent:=if L3 id es then es[A9 id es]? else .none
theorem a2v {es:List Ent} {id:List Nat} {e:Ent} (h:Z5 es id=some e):e∈es∧eqN e.id id=true:=by
 unfold Z5 at h
 split at h
 · rename_i hh
   unfold L3 at hh
   rw [h] at hh
   exact ⟨List.mem_of_getElem? h,hh⟩
 · cases h
theorem b3S {es:List Ent} {v:AV} {st:St} (hv:EntsAt v es st) (hs:M1 es) (hl:es.length≤100000) (id:List Nat):EvQ tbl 29 [.agg [v],.str id] st (fun a st'=>st'=st∧a=.tuple [.agg ((Z5 es id).getD Ent.none).row,.bool (Z5 es id).isSome]):=by
 have hfi:=b1M hv hs hl id
 have hlt:=fun h=>b23 (es:=es) (id:=id) h
 rcases hv with ⟨rfl,rfl⟩|⟨o,rfl,ho⟩
 · refine EvQ.body (fn:=a29) rfl rfl rfl ?_
   simp +contextual -implicitDefEqProofs only [K29,SS,rA,rS,rL,rE,reduceCtorEq]
   refine WC.call hfi rfl rfl ?_
   rintro _ _ ⟨rfl,rfl⟩
   simp +contextual -implicitDefEqProofs only [K29,SS,rA,rS,rL,rE,reduceCtorEq,show L3 id []=false from rfl,Bool.not_false]
   exact WC.ret ⟨_,_,rfl,rfl,rfl⟩
 · refine EvQ.body (fn:=a29) rfl rfl rfl ?_
   simp +contextual -implicitDefEqProofs only [K29,SS,rA,rS,rL,rE,reduceCtorEq]
   refine WC.call hfi rfl rfl ?_
   rintro _ _ ⟨rfl,rfl⟩
   unfold Z5
   rcases e7 (L3 id es) with h|h
   · have hil:=hlt h
     obtain ⟨hld,hle⟩:=b4O hil
     have hml:((A9 id es:Int) < (es.length:Int))=True:=by simp; omega
     rw [if_pos h,List.getElem?_eq_getElem hil]
     revert hle
     generalize es[A9 id es]=e
     intro hle
     have ee:e.row=[.str e.t,.str e.id,.list false (e.ks.map d8),.list false (e.ls.map Val.row)]:=rfl
     rw [ee] at hle
     simp +contextual -implicitDefEqProofs only [K29,SS,rA,rS,rL,rE,reduceCtorEq,h,Bool.not_true,hml,if_true,ho,hld,hle]
     exact WC.ret ⟨_,_,rfl,rfl,rfl⟩
   · rw [h,if_neg (by decide)]
     simp +contextual -implicitDefEqProofs only [K29,SS,rA,rS,rL,rE,reduceCtorEq,h,Bool.not_false]
     exact WC.ret ⟨_,_,rfl,rfl,rfl⟩
end Go.Cb.CodeA
set_option maxRecDepth 20000
set_option linter.unusedSimpArgs false
set_option linter.unusedVariables false
namespace Go.Cb.CodeA
open Go Go.Cb
open Nat renaming reduceAdd→rA,reduceSub→rS,reduceLeDiff→rL,reduceEqDiff→rE
attribute [local congr] g8 i7 j0 j1 i6 g9 j5 j4 V.runR_congr
/-! a runner -/
def TRef.nm:TRef→List Nat
 | .base n _=>n
 | .wrap _ _=>[]
def TRef.of:TRef→List (List AV)
 | .base _ _=>[]
 | .wrap t _=>[t.row]
def TRef.bang:TRef→Bool
 | .base _ b=>b
 | .wrap _ b=>b
def TRef.bs:TRef→List Nat
 | .base n _=>n
 | .wrap t _=>t.bs
theorem TRef.row_eta (t:TRef):t.row=[.str t.nm,.list false t.of,.bool t.bang]:=by cases t <;> rfl
def Val.names:Val→List (List Nat)|.mk _ _ _ ks _=>ks
def Val.vals:Val→List Val|.mk _ _ _ _ ls=>ls
theorem Val.row_eta (v:Val):v.row=[.int .u8 v.kind,.int .i64 v.num,.str v.text,.list false (v.names.map d8),.list false (v.vals.map Val.row)]:=by
 cases v; exact Val.row_eq _ _ _ _ _
structure FDef where
 n:List Nat
 ar:List (List AV)
 t:TRef
 has:Bool
 v:Val
def FDef.row (f:FDef):List AV:=[.str f.n,.list false f.ar,.str f.t.nm,.list false f.t.of,.bool f.t.bang,.bool f.has,.int .u8 f.v.kind,.int .i64 f.v.num,.str f.v.text,.list false (f.v.names.map d8),.list false (f.v.vals.map Val.row)]
def FDef.none:FDef:=⟨[],[],.base [] false,false,Val.none⟩
def B7 (ks:List (List Nat)) (ls:List Val):Cb.Obj:=.cells [.int .u8 6,.int .i64 0,.str [],.list true (ks.map d8),.list true (ls.map Val.row)]
def Sel.nm:Sel→List Nat|.mk _ _ nm _ _ _ _=>nm
def Sel.as:Sel→List Arg|.mk _ _ _ _ as _ _=>as
def Sel.sub:Sel→List Sel|.mk _ _ _ _ _ _ sub=>sub
/-- how telling stands: problems, whether not all is known, steps -/
structure RS where
 ps:List (List (List Nat)×Int)
 part:Bool
 steps:Nat
def RS.prob (s:RS) (p:List (List Nat)) (e:Int):RS:=⟨s.ps++[(p,e)],s.part,s.steps⟩
def RS.step (s:RS):RS:=⟨s.ps,s.part,if s.steps≤5000 then s.steps+1 else s.steps⟩
/-- what a runner's surroundings answer -/
structure REnv where
 so:Nat
 ops:List (List AV)
 frs:List (List AV)
 es:List Ent
 v:AV
 whole:Bool
 tv:AV
 vk:Int
 vn:Int
 vs:List Nat
 vks:List (List AV)
 vls:List (List AV)
 fld:List Nat→List Nat→Option FDef
 grp:List Nat→List Sel→List (List Nat×List Sel)
 poss:List Nat→List (List Nat)
 leaf:List Nat→Bool
 fits:List Nat→Val→Bool
 knows:List Nat→Bool
 args:FDef→List Arg→Val×Int
def REnv.know (E:REnv) (s:RS) (n:List Nat):RS:=if E.knows n then s else ⟨s.ps,true,s.steps⟩
def REnv.vars (E:REnv):List AV:=[.int .u8 E.vk,.int .i64 E.vn,.str E.vs,.list false E.vks,.list false E.vls]
/-- a value that entities have, or that is told of them -/
def VX (v:Val):Prop:=∃ k n s ls,v=.mk k n s [] ls∧k≠6∧ls.length≤100000∧∀ u∈ls,∃ k n s,u=.mk k n s [] []∧k≠6
theorem VX.one {k n:Int} {s:List Nat} (h:k≠6):VX (.mk k n s [] []):=⟨k,n,s,[],rfl,h,by decide,by simp⟩
theorem VX.none:VX Val.none:=VX.one (by decide)
theorem Small.vx {v:Val} (h:Small v):VX v:=let ⟨k,n,s,ls,h1,h2,h3,h4⟩:=h; ⟨k,n,s,ls,h1,h2.1,by omega,h4⟩
theorem VX.sub {k n:Int} {s:List Nat} {ks:List (List Nat)} {ls:List Val} (h:VX (.mk k n s ks ls)):∀ u∈ls,VX u:=fun u hu=>by
 obtain ⟨k',n',s',ls',e,_,_,h4⟩:=h
 cases e
 obtain ⟨k,n,s,rfl,hk⟩:=h4 u hu
 exact VX.one hk
def D1 (ps:List (List (List Nat)×Int)):List AV:=ps.flatMap fun p=>[.list false (p.1.map d8),.int .i64 p.2]
theorem b4W (ps:List (List (List Nat)×Int)):(D1 ps).length=ps.length*2:=by
 induction ps with
 | nil=>rfl
 | cons p ps ih=>rw [show D1 (p::ps)=[.list false (p.1.map d8),.int .i64 p.2]++D1 ps from rfl,List.length_append,ih,List.length_cons]; simp; omega
theorem b4K (a b:List (List (List Nat)×Int)):D1 (a++b)=D1 a++D1 b:=by simp [D1]
def D5 (E:REnv) (s:RS) (pv:AV):List AV:=[.ptr E.so 0,.list false E.ops,.list false E.frs,E.v,.bool E.whole,E.tv,.int .u8 E.vk,.int .i64 E.vn,.str E.vs,.list false E.vks,.list false E.vls,pv,.bool s.part,.int .i64 s.steps]
/-- problems as an object of the store behind the runner's -/
def PAt (b:Nat) (pv:AV) (ps:List (List (List Nat)×Int)) (st:St):Prop:=(pv=.nils∧ps=[])∨∃ o,b < o∧pv=.sl o 0 ps.length 2∧st[o]?=some (.cells (D1 ps))
/-- a runner lies in the store, behind what there was -/
structure RunAt (E:REnv) (B:St) (s:RS) (pv:AV) (st:St):Prop where
 ob:st[B.length]?=some (.cells (D5 E s pv))
 pr:PAt B.length pv s.ps st
 gr:Gr B st
 le:s.steps≤5001
 pl:∀ x∈s.ps,x.1.length≤100000
/-- what a call leaves as it was -/
structure RK (B:St) (pv:AV) (st:St) (pv':AV) (st':St):Prop where
 keep:∀ i x,i≠B.length→D0 pv≠some i→st[i]?=some x→st'[i]?=some x
 len:st.length≤st'.length
 pv:pv'=pv∨∀ o,D0 pv'=some o→st.length≤o
theorem RK.refl (B:St) (pv:AV) (st:St):RK B pv st pv st:=⟨fun _ _ _ _ h=>h,Nat.le_refl _,.inl rfl⟩
theorem RK.trans {B:St} {pv pv1 pv2:AV} {st st1 st2:St} (h:RK B pv st pv1 st1) (h2:RK B pv1 st1 pv2 st2):RK B pv st pv2 st2:=by
 refine ⟨fun i x hi hr hx=>h2.keep i x hi (fun hr2=>?_) (h.keep i x hi hr hx),Nat.le_trans h.len h2.len,?_⟩
 · rcases h.pv with e|e
   · rw [e] at hr2; exact hr hr2
   · have:=e i hr2
     have:=(List.getElem?_eq_some_iff.1 hx).1
     omega
 · rcases h2.pv with e|e
   · rw [e]; exact h.pv
   · exact .inr fun o ho=>Nat.le_trans h.len (e o ho)
theorem RK.of_gr {B:St} {pv:AV} {st st':St} (h:Gr st st') (hl:st.length≤st'.length):RK B pv st pv st':=⟨fun i x _ _ hx=>h i x hx,hl,.inl rfl⟩
theorem PAt.wk {b:Nat} {pv:AV} {ps:List (List (List Nat)×Int)} {st:St} (h:PAt b pv ps st):pv.weak=pv∧pv.weak1=pv∧pv.strip=pv∧pv.stripB=pv∧pv.plain=true∧pv.cells=[pv]∧pv.cellsW=[pv]:=by
 rcases h with ⟨rfl,_⟩|⟨o,_,rfl,_⟩ <;> exact ⟨rfl,rfl,rfl,rfl,rfl,rfl,rfl⟩
theorem PAt.root {b:Nat} {pv:AV} {ps:List (List (List Nat)×Int)} {st:St} (h:PAt b pv ps st):∀ o,D0 pv=some o→b < o∧o < st.length:=fun o ho=>by
 rcases h with ⟨rfl,_⟩|⟨p,hp,rfl,hx⟩
 · cases ho
 · cases ho; exact ⟨hp,(List.getElem?_eq_some_iff.1 hx).1⟩
/-- what grows leaves a runner as it stands -/
theorem RunAt.grow {E:REnv} {B:St} {s:RS} {pv:AV} {st st':St} (h:RunAt E B s pv st) (hg:Gr st st'):RunAt E B s pv st' :=
 ⟨hg _ _ h.ob,by rcases h.pr with hp|⟨o,h1,h2,h3⟩; exact .inl hp; exact .inr ⟨o,h1,h2,hg _ _ h3⟩,h.gr.trans hg,h.le,h.pl⟩
/-- the runner's own cells changed -/
theorem RunAt.put {E:REnv} {B:St} {s s':RS} {pv:AV} {st:St} (h:RunAt E B s pv st) (hps:s'.ps=s.ps) (hle:s'.steps≤5001):RunAt E B s' pv (st.set B.length (.cells (D5 E s' pv)))∧RK B pv st pv (st.set B.length (.cells (D5 E s' pv))):=by
 have hk:∀ i x,i≠B.length→st[i]?=some x→(st.set B.length (.cells (D5 E s' pv)))[i]?=some x:=fun i x hi hx=>by rw [List.getElem?_set_ne (by omega)]; exact hx
 refine ⟨⟨List.getElem?_set_self (List.getElem?_eq_some_iff.1 h.ob).1,?_,fun i x hx=>?_,hle,by rw [hps]; exact h.pl⟩,fun i x hi _ hx=>hk i x hi hx,by simp,.inl rfl⟩
 · rw [hps]
   rcases h.pr with hp|⟨o,h1,h2,h3⟩
   · exact .inl hp
   · exact .inr ⟨o,h1,h2,hk o _ (by omega) h3⟩
 · exact hk i x (by have:=(List.getElem?_eq_some_iff.1 hx).1; omega) (h.gr i x hx)
theorem d3O (a:Int) (b:Int):(!ltI b a)=decide (a≤b):=by
 rw [ltI_eq]
 by_cases h:a≤b
 · rw [decide_eq_true h,decide_eq_false (by omega)]; rfl
 · rw [decide_eq_false h,decide_eq_true (by omega)]; rfl
theorem b7B {E:REnv} {B:St} {s:RS} {pv:AV} {st:St} (h:RunAt E B s pv st):EvQ tbl 85 [.ptr B.length 0] st (fun a st'=>a=.bool (decide (s.step.steps≤5000))∧RunAt E B s.step pv st'∧RK B pv st pv st'):=by
 have hob:=h.ob
 have hle:=h.le
 obtain ⟨w1,w2,w3,w4,w5,w6,w7⟩:=h.pr.wk
 unfold D5 at hob
 refine EvQ.body (fn:=a85) rfl rfl rfl ?_
 simp +contextual -implicitDefEqProofs only [K85,SS,rA,rS,rL,rE,reduceCtorEq,hob]
 by_cases hs:s.steps≤5000
 · have c:ltI 5000 (s.steps:Int)=false:=by rw [ltI_eq]; simp; omega
   obtain ⟨h1,h2⟩:=h.put (s':=s.step) rfl (by unfold RS.step; dsimp only; rw [if_pos hs]; omega)
   have e:D5 E s.step pv=[.ptr E.so 0,.list false E.ops,.list false E.frs,E.v,.bool E.whole,E.tv,.int .u8 E.vk,.int .i64 E.vn,.str E.vs,.list false E.vks,.list false E.vls,pv,.bool s.part,.int .i64 ((s.steps+1:Nat):Int)]:=by unfold D5 RS.step; dsimp only; rw [if_pos hs]
   have hst:s.step.steps=s.steps+1:=by unfold RS.step; dsimp only; rw [if_pos hs]
   rw [hst]
   rw [e] at h1 h2
   have hget:∀ y:Cb.Obj,(st.set B.length y)[B.length]?=some y:=fun y=>List.getElem?_set_self (List.getElem?_eq_some_iff.1 hob).1
   have c2:(!ltI 5000 ((s.steps+1:Nat):Int))=decide (s.steps+1≤5000):=by rw [d3O]; apply decide_eq_decide.2; omega
   simp +contextual -implicitDefEqProofs only [K85,SS,rA,rS,rL,rE,reduceCtorEq,c,hob,hget,r8 (show s.steps+1 < 2 ^ 63 by omega),c2]
   refine WC.ret ⟨_,_,rfl,?_,h1,h2⟩
   rfl
 · have hst:s.step=s:=by unfold RS.step; rw [if_neg hs]
   have c:ltI 5000 (s.steps:Int)=true:=by rw [ltI_eq]; simp; omega
   rw [hst]
   simp +contextual -implicitDefEqProofs only [K85,SS,rA,rS,rL,rE,reduceCtorEq,c,hob]
   refine WC.ret ⟨_,_,rfl,?_,h,RK.refl _ _ _⟩
   rw [decide_eq_false hs]
   rfl
end Go.Cb.CodeA
/- What functions of the abstract machine answer. No conditions but those that each theorem names. -/
set_option maxRecDepth 20000
set_option linter.unusedSimpArgs false
set_option linter.unusedVariables false
namespace Go.Cb.CodeA
open Go Go.Cb
open Nat renaming reduceAdd→rA,reduceSub→rS,reduceLeDiff→rL,reduceEqDiff→rE
attribute [local congr] g8 i7 j0 j1 i6 g9 j5 j4 V.runR_congr
theorem a4F (l:List (List Nat)) (hl:l.length≤100000000) (st:St):EvQ tbl 86 [.list false (l.map d8)] st (fun a st'=>st'=st∧a=.list true (l.map d8)):=by
 refine EvQ.of_ext (fn:=a86) (r:=(.list true (l.map d8),st)) rfl rfl ?_ ⟨rfl,rfl⟩
 simp only [Y5,a1k,List.length_map,Bool.true_and]
 rw [if_pos (by simp; omega)]
theorem b4B (n:Nat):(n.beq n=true)=True:=by simp
theorem b8k {st:St} {o:Nat} {x:Cb.Obj} (h:st[o]?=some x):kept st st [.ptr o 0]=true:=by
 simp only [kept,D0,h,Bool.and_true]
 exact (Y0 _ _).2 rfl
theorem RunAt.newp {E:REnv} {B:St} {s:RS} {pv:AV} {st:St} (h:RunAt E B s pv st) {st1:St} (hk:∀ i x,i≠B.length→D0 pv≠some i→st[i]?=some x→st1[i]?=some x) (hl:st1.length=st.length+1) {ps':List (List (List Nat)×Int)} (hnew:st1[st.length]?=some (.cells (D1 ps'))) {n:Nat} (hps:n=ps'.length) (hpp:∀ x∈ps',x.1.length≤100000) :
 RunAt E B ⟨ps',s.part,s.steps⟩ (.sl st.length 0 n 2) (st1.set B.length (.cells (D5 E ⟨ps',s.part,s.steps⟩ (.sl st.length 0 n 2))))∧RK B pv st (.sl st.length 0 n 2) (st1.set B.length (.cells (D5 E ⟨ps',s.part,s.steps⟩ (.sl st.length 0 n 2)))):=by
 subst hps
 have hlt:B.length < st.length:=(List.getElem?_eq_some_iff.1 h.ob).1
 have hk2:∀ (y:Cb.Obj) i x,i≠B.length→st1[i]?=some x→(st1.set B.length y)[i]?=some x:=fun y i x hi hx=>by rw [List.getElem?_set_ne (by omega)]; exact hx
 refine ⟨⟨List.getElem?_set_self (by omega),.inr ⟨st.length,hlt,rfl,hk2 _ _ _ (by omega) hnew⟩,fun i x hx=>?_,h.le,hpp⟩,fun i x hi hr hx=>hk2 _ i x hi (hk i x hi hr hx),by rw [List.length_set]; omega,.inr fun o ho=>by cases ho; exact Nat.le_refl _⟩
 have hi:i < B.length:=(List.getElem?_eq_some_iff.1 hx).1
 exact hk2 _ i x (by omega) (hk i x (by omega) (fun hr=>by have:=(h.pr.root i hr).1; omega) (h.gr i x hx))
theorem a00 {E:REnv} {B:St} {s:RS} {pv:AV} {st:St} (h:RunAt E B s pv st) {path:List (List Nat)} (hp:path≠[]) (hpl:path.length≤100000) (hn:s.ps.length≤100000) (e:Int) :
 EvQ tbl 136 [.ptr B.length 0,.list false (path.map d8),.int .i64 e] st (fun a st'=>∃ pv',RunAt E B (s.prob path e) pv' st'∧RK B pv st pv' st'):=by
 have hob:=h.ob
 obtain ⟨w1,w2,w3,w4,w5,w6,w7⟩:=h.pr.wk
 have hlt:B.length < st.length:=(List.getElem?_eq_some_iff.1 hob).1
 unfold D5 at hob
 have hie:(path.map d8).isEmpty=false:=by cases path with|nil=>exact absurd rfl hp|cons x xs=>rfl
 refine EvQ.body (fn:=a136) rfl rfl rfl ?_
 simp +contextual -implicitDefEqProofs only [b9H,SS,rA,rS,rL,rE,reduceCtorEq,hob,W6,b4B,if_true,w1,w2,w3,w4,w5,w6,w7]
 refine WC.callA (a4F path (by omega) st) rfl rfl ?_
 rintro _ st ⟨rfl,rfl⟩
 refine ⟨b8k hob,?_⟩
 have g32:1*32≤2 ^ 47:=by decide
 have g12:∀ pv',12≤(D5 E s pv').length:=fun pv'=>by simp [D5]
 rcases h.pr with ⟨rfl,hps⟩|⟨o,ho,rfl,hx⟩
 · have hob1:=fun y=>j8 (y:=y) hob
   obtain ⟨f1,f2⟩:=h.newp (st1:=st++[.cells (D1 [(path,e)])]) (fun i x _ _ hx=>j8 hx) (by simp) (m9 _ _) (n:=1) rfl (fun x hx=>by simp at hx; rw [hx]; exact hpl)
   simp +contextual -implicitDefEqProofs only [b9H,SS,rA,rS,rL,rE,reduceCtorEq,g32,if_true,hob1]
   exact WC.ret ⟨_,_,rfl,.sl st.length 0 1 2,by rw [RS.prob,hps]; exact f1,f2⟩
 · have hob1:∀ y:Cb.Obj,(st.set o .dead++[y])[B.length]?=some (.cells (D5 E s (.sl o 0 s.ps.length 2))):=fun y=>j8 (by rw [List.getElem?_set_ne (by omega)]; exact hob)
   have hxl:(D1 s.ps).length=s.ps.length*2:=b4W _
   have g33:(s.ps.length+1)*32≤2 ^ 47:=by omega
   obtain ⟨f1,f2⟩:=h.newp (st1:=st.set o .dead++[.cells (D1 (s.ps++[(path,e)]))]) (fun i x _ hr hx=>j8 (by rw [List.getElem?_set_ne (fun h=>hr (by rw [h]; rfl))]; exact hx)) (by simp) (by have:=m9 (st.set o .dead) (.cells (D1 (s.ps++[(path,e)]))); rw [List.length_set] at this; exact this) (n:=s.ps.length+1) (by simp) (fun x hx=>by
    rcases List.mem_append.1 hx with hx|hx
    · exact h.pl x hx
    · simp at hx; rw [hx]; exact hpl)
   unfold D5 at hob1
   rw [b4K] at f1 f2
   simp +contextual -implicitDefEqProofs only [b9H,SS,rA,rS,rL,rE,reduceCtorEq,hx,hxl,g33,if_true,hob1]
   exact WC.ret ⟨_,_,rfl,.sl st.length 0 (s.ps.length+1) 2,f1,f2⟩
end Go.Cb.CodeA
set_option maxRecDepth 20000
set_option linter.unusedSimpArgs false
set_option linter.unusedVariables false
namespace Go.Cb.CodeA
open Go Go.Cb
open Nat renaming reduceAdd→rA,reduceSub→rS,reduceLeDiff→rL,reduceEqDiff→rE
attribute [local congr] g8 i7 j0 j1 i6 g9 j5 j4 V.runR_congr
theorem Gr.len {st st':St} (h:Gr st st'):st.length≤st'.length:=by
 rcases Nat.lt_or_ge st'.length st.length with hlt|hge
 · have:=h st'.length _ (List.getElem?_eq_getElem hlt)
   rw [List.getElem?_eq_none (Nat.le_refl _)] at this
   cases this
 · exact hge
theorem a0g (a b:List Sel):sizes (a++b)=sizes a+sizes b:=by
 induction a with
 | nil=>simp [sizes]
 | cons x a ih=>rw [List.cons_append,l3,l3,ih]; omega
theorem a04:∀ l:List Sel,l.length≤sizes l
 | []=>Nat.zero_le _
 | x::l=>by
  have:=a04 l
  cases x
  rw [l3,a0p,List.length_cons]; omega
/-- what the fields of a group select -/
def l7 (fs:List Sel):List Sel:=fs.flatMap Sel.sub
theorem a1R:∀ fs:List Sel,sizes (l7 fs)≤sizes fs
 | []=>Nat.le_refl _
 | x::l=>by
  have:=a1R l
  cases x
  rw [l3,a0p,show ∀ k al nm on as ds sub,l7 (Sel.mk k al nm on as ds sub::l)=sub++l7 l from fun _ _ _ _ _ _ _=>rfl,a0g]; omega
theorem b4E (l:List Sel) (i:Nat):sizes (l.take i)≤sizes l:=by
 have:=a0g (l.take i) (l.drop i)
 rw [List.take_append_drop] at this
 omega
theorem a5x {s:Sel} (h:s.OK):∀ u∈s.sub,u.OK:=by
 cases h
 assumption
theorem c3s {fs:List Sel} (h:∀ s∈fs,s.OK):∀ s∈l7 fs,s.OK:=fun s hs=>by
 obtain ⟨f,hf,hs⟩:=List.mem_flatMap.1 hs
 exact a5x (h f hf) s hs
theorem b2b (es:List Sel):∀ i,(m8 es).drop (i*7)=m8 (es.drop i):=by
 induction es with
 | nil=>intro i; simp [m8]
 | cons e es ih =>
  intro i
  cases i with
  | zero=>rw [Nat.zero_mul,List.drop_zero,List.drop_zero]
  | succ i =>
   rw [List.drop_succ_cons,← ih i,show (i+1)*7=7+i*7 by omega,← List.drop_drop,show m8 (e::es)=e.row++m8 es from rfl]
   have:(e.row++m8 es).drop 7=m8 es:=by
    have hl:=Sel.row_len e
    rw [List.drop_append_of_le_length (by omega),List.drop_of_length_le (by omega)]
    rfl
   rw [this]
theorem c9y (s:Sel):s.row.map AV.weak1=s.row:=by
 cases s
 rw [Sel.row_eq]
 rfl
theorem b69 {es:List Sel} {i:Nat} (h:i < es.length):(7≤(List.drop (i*7) (m8 es)).length)=True∧List.map AV.weak1 (List.take 7 (List.drop (i*7) (m8 es)))=es[i].row:=by
 rw [b2b,List.drop_eq_getElem_cons h]
 have hl:=Sel.row_len es[i]
 have e:m8 (es[i]::es.drop (i+1))=es[i].row++m8 (es.drop (i+1)):=rfl
 rw [e]
 refine ⟨by simp; omega,?_⟩
 rw [List.take_append_of_le_length (by omega),List.take_of_length_le (by omega),c9y]
theorem d15 {fs:List Sel} (hok:∀ s∈fs,s.OK) (hsz:sizes fs≤90000000) {fo:Nat} {st:St} (h:st[fo]?=some (.cells (m8 fs))) (key:List Nat) :
 EvQ tbl 194 [.agg [.str key,.sl fo 0 fs.length 7]] st (fun a st'=>st'=st∧a=.list false ((l7 fs).map Sel.row)):=by
 have hfl:=a04 fs
 refine EvQ.body (fn:=a194) rfl rfl rfl ?_
 simp +contextual -implicitDefEqProofs only [b1F,SS,rA,rS,rL,rE,reduceCtorEq]
 refine WC.loopR (fun mm fr st'=>st'=st∧∃ (i:Nat) (v4:AV),i≤fs.length∧mm=fs.length - i∧fr=[.agg [.str key,.sl fo 0 fs.length 7],.box [.str key,.sl fo 0 fs.length 7],.list true [],.list true ((l7 (fs.take i)).map Sel.row),v4,.sl fo 0 fs.length 7,.int .i64 fs.length,.int .i64 i]) (m:=fs.length) ⟨rfl,0,_,Nat.zero_le _,rfl,rfl⟩ ?_
 rintro mm fr st' ⟨rfl,i,v4,hi,rfl,rfl⟩
 simp +contextual -implicitDefEqProofs only [b1F,SS,rA,rS,rL,rE,reduceCtorEq,ltN]
 by_cases hil:i < fs.length
 · obtain ⟨hld,hle⟩:=b69 hil
   have hml:((i:Int) < (fs.length:Int))=True:=by simp; omega
   have e3:l7 (fs.take (i+1))=l7 (fs.take i)++fs[i].sub:=by
    rw [List.take_add_one,List.getElem?_eq_getElem hil,l7,List.flatMap_append]
    simp [l7]
   have g1:((l7 (fs.take i)).length+fs[i].sub.length)*128≤2 ^ 47:=by
    have a1:=a04 (l7 (fs.take (i+1)))
    have a2:=a1R (fs.take (i+1))
    have a3:=b4E fs (i+1)
    rw [e3,List.length_append] at a1
    rw [e3] at a2
    exact Nat.le_trans (Nat.mul_le_mul_right 128 (show _≤90000000 by omega)) (by decide)
   have hr1:k6 7 ((l7 (fs.take i)).map Sel.row)=true:=b24 _
   revert hle e3 g1
   generalize fs[i]=s
   obtain ⟨k,al,nm,on,as,ds,sub⟩:=s
   intro hle e3 g1
   have hr2:k6 7 (sub.map Sel.row)=true:=b24 _
   have g1:((l7 (fs.take i)).length+sub.length)*128≤2 ^ 47:=g1
   rw [Sel.row_eq] at hle
   simp +contextual -implicitDefEqProofs only [b1F,SS,rA,rS,rL,rE,reduceCtorEq,hil,hml,if_true,h,R.ldAn_ptr,R.takeVal_t,hld,hle,hr1,hr2,List.length_map,g1,r8 (show i+1 < 2 ^ 63 by omega)]
   exact WC.next (m':=fs.length - (i+1)) (by omega) ⟨rfl,i+1,_,hil,rfl,by rw [e3,List.map_append]; rfl⟩
 · rw [List.take_of_length_le (by omega)]
   simp +contextual -implicitDefEqProofs only [b1F,SS,rA,rS,rL,rE,reduceCtorEq,hil]
   refine WC.leave ?_
   simp +contextual -implicitDefEqProofs only [b1F,SS,rA,rS,rL,rE,reduceCtorEq]
   exact WC.ret ⟨_,_,rfl,rfl,rfl⟩
/-- the first value of a name -/
def atK (k:Int) (ks:List (List Nat)) (ls:List Val) (n:List Nat):Val:=(if eqI k 6 then (match pI (fun x=>eqN n x) ks with|some i=>ls[i]?|none=>none) else none).getD Val.none
theorem b66 {k m:Int} {s:List Nat} {ks:List (List Nat)} {ls:List Val} (hk:ks.length≤100000000) (he:k=6→ks.length=ls.length) (n:List Nat) (st:St) :
 EvQ tbl 79 [.agg [.int .u8 k,.int .i64 m,.str s,.list false (ks.map d8),.list false (ls.map Val.row)],.str n] st (fun a st'=>st'=st∧∃ b,a=.tuple [.agg (atK k ks ls n).row,.bool b]) :=
 c0N (K:=⟨0,[],[],[],k,m,s,ks,ls,fun _=>[]⟩) ⟨hk,he,by simp,by simp⟩ n st
def TRef.depth:TRef→Nat
 | .base _ _=>0
 | .wrap t _=>t.depth+1
theorem c51 (t:TRef) (st:St):EvQ tbl 134 [.agg t.row] st (fun a st'=>st'=st∧a=.str t.bs):=by
 rw [t.row_eta]
 refine EvQ.body (fn:=a134) rfl rfl rfl ?_
 simp +contextual -implicitDefEqProofs only [b4H,SS,rA,rS,rL,rE,reduceCtorEq]
 refine WC.loopR (fun mm fr st'=>st'=st∧∃ (u:TRef),mm=u.depth∧u.bs=t.bs∧fr=[.agg [.str t.nm,.list false t.of,.bool t.bang],.box [.str u.nm,.list false u.of,.bool u.bang],.str []]) (m:=t.depth) ⟨rfl,t,rfl,rfl,rfl⟩ ?_
 rintro mm fr st' ⟨rfl,u,rfl,hb,rfl⟩
 cases u with
 | base n b =>
  simp +contextual -implicitDefEqProofs only [b4H,SS,rA,rS,rL,rE,reduceCtorEq,TRef.nm,TRef.of,TRef.bang,List.length_nil,show ltI 0 ((0:Nat):Int)=false from rfl]
  refine WC.leave ?_
  simp +contextual -implicitDefEqProofs only [b4H,SS,rA,rS,rL,rE,reduceCtorEq]
  exact WC.ret ⟨_,_,rfl,rfl,by rw [← hb]; rfl⟩
 | wrap u b =>
  simp +contextual -implicitDefEqProofs only [b4H,SS,rA,rS,rL,rE,reduceCtorEq,TRef.nm,TRef.of,TRef.bang,u.row_eta,List.length_cons,List.length_nil,show ltI 0 (((0+1:Nat)):Int)=true from rfl,List.getElem?_cons_zero]
  exact WC.next (m':=u.depth) (by rw [TRef.depth]; omega) ⟨rfl,u,rfl,hb,rfl⟩
theorem c5m (i:Nat) (hi:i≤1000000) (st:St):EvQ tbl 191 [.int .i64 (i:Int)] st (fun a st'=>st'=st∧a=.str (C9 (i:Int))):=by
 have hf:EvQ tbl 201 [.int .i64 (i:Int),.int .i64 10] st (fun a st'=>st'=st∧a=.str (C9 (i:Int))) :=
  EvQ.of_ext (fn:=a201) rfl rfl (by unfold a7u; exact if_pos ⟨by omega,by omega⟩) ⟨rfl,rfl⟩
 have h2:EvQ tbl 203 [.int .i64 (i:Int)] st (fun a st'=>st'=st∧a=.str (C9 (i:Int))):=by
  refine EvQ.body (fn:=a203) rfl rfl rfl ?_
  simp +contextual -implicitDefEqProofs only [c5E,SS,rA,rS,rL,rE,reduceCtorEq]
  refine WC.call hf rfl rfl ?_
  rintro _ _ ⟨rfl,rfl⟩
  simp +contextual -implicitDefEqProofs only [c5E,SS,rA,rS,rL,rE,reduceCtorEq]
  exact WC.ret ⟨_,_,rfl,rfl,rfl⟩
 refine EvQ.body (fn:=a191) rfl rfl rfl ?_
 simp +contextual -implicitDefEqProofs only [c4y,SS,rA,rS,rL,rE,reduceCtorEq]
 refine WC.call h2 rfl rfl ?_
 rintro _ _ ⟨rfl,rfl⟩
 simp +contextual -implicitDefEqProofs only [c4y,SS,rA,rS,rL,rE,reduceCtorEq]
 exact WC.ret ⟨_,_,rfl,rfl,rfl⟩
end Go.Cb.CodeA
set_option maxRecDepth 20000
set_option linter.unusedSimpArgs false
set_option linter.unusedVariables false
namespace Go.Cb.CodeA
open Go Go.Cb
open Nat renaming reduceAdd→rA,reduceSub→rS,reduceLeDiff→rL,reduceEqDiff→rE
attribute [local congr] g8 i7 j0 j1 i6 g9 j5 j4 V.runR_congr
abbrev VF:=TRef→Val→List Sel→List (List Nat)→RS→Val×RS
abbrev a6X:=(Val×Bool)×RS
def s9 (V:VF) (t:TRef) (v:Val) (fs:List Sel) (path:List (List Nat)) (s:RS):a6X:=match V t v fs path s with
 | (out,s2)=>if eqI out.kind 0 && t.bang then ((Val.none,false),if s2.ps.length=s.ps.length then s2.prob path 9 else s2) else ((out,true),s2)
def B1 (V:VF) (t:TRef) (fs:List Sel) (path:List (List Nat)):List Val→Nat→List Val→RS→Val×RS
 | [],_,acc,s=>(.mk 5 0 [] [] acc,s)
 | x::xs,i,acc,s=>if s.step.steps≤5000 then (match s9 V t x fs (path++[C9 (i:Int)]) s.step with|((y,ok),s2)=>if ok then B1 V t fs path xs (i+1) (acc++[y]) s2 else (Val.none,s2)) else (Val.none,s.step)
def I9 (n:List Nat):Val:=.mk 8 0 n [] []
def K6:List Nat:=[95,95,116,121,112,101,110,97,109,101]
def n4:List Nat:=[81,117,101,114,121]
def idN:List Nat:=[105,100]
def S2:List Sel→List Arg
 | []=>[]
 | x::_=>x.as
def a0o:List Sel→List Nat
 | []=>[]
 | x::_=>x.nm
def y8 (E:REnv) (V:VF) (typ:List Nat) (x:Ent) (f:FDef) (fs:List Sel) (path:List (List Nat)) (s:RS):a6X :=
 if eqN f.n K6 then ((.mk 2 0 typ [] [],true),s)
 else if !eqN typ n4 then s9 V f.t (atK 6 x.ks x.ls f.n) fs path s
 else if f.ar.isEmpty then s9 V f.t (.mk 5 0 [] [] ((E.es.filter fun y=>j9 (E.poss f.t.bs) y.t).map fun y=>I9 y.id)) fs path (E.know s f.t.bs)
 else match E.args f (S2 fs) with
  | (a,e)=>if eqI e 0 then s9 V f.t (I9 (atK a.kind a.names a.vals idN).text) fs path (E.know s f.t.bs) else ((Val.none,true),(E.know s f.t.bs).prob path e)
def A0 (E:REnv) (V:VF) (typ:List Nat) (x:Ent) (path:List (List Nat)):List (List Nat×List Sel)→List (List Nat)→List Val→RS→a6X
 | [],ks,ls,s=>((.mk 6 0 [] ks ls,true),s)
 | (key,fs)::gs,ks,ls,s=>match E.fld typ (a0o fs) with
  | none=>A0 E V typ x path gs ks ls s
  | some f=>if s.step.steps≤5000 then (match y8 E V typ x f fs (path++[key]) s.step with|((v,ok),s2)=>if ok then A0 E V typ x path gs (ks++[key]) (ls++[v]) s2 else ((Val.none,false),s2)) else ((Val.none,false),s.step)
def a2c (E:REnv) (n:List Nat) (v:Val):Bool:=if eqN n [73,68] then eqI v.kind 2 else E.fits n v
/-- what a value is told as -/
def valF (E:REnv):Nat→VF
 | 0,_,_,_,_,s=>(Val.none,s)
 | n+1,t,v,fs,path,s=>if eqI v.kind 0 then (v,s) else match t with
  | .wrap u _=>if eqI v.kind 5 then B1 (valF E n) u fs path v.vals 0 [] s else (Val.none,s.prob path 8)
  | .base nm _=>if E.leaf nm then (if a2c E nm v then (v,s) else (Val.none,s.prob path 8))
   else if eqI v.kind 8 then (match Z5 E.es v.text with
    | none=>(Val.none,E.know s nm)
    | some x=>if j9 (E.poss nm) x.t then (match A0 E (valF E n) x.t x path (E.grp x.t (l7 fs)) [] [] (E.know s nm) with|((v,_),s2)=>(v,s2)) else (Val.none,E.know s nm))
   else (Val.none,s.prob path 8)

/-- its numbers are numbers of their kind -/
inductive Val.Rng:Val→Prop
 | mk (k n:Int) (s:List Nat) (ks:List (List Nat)) (ls:List Val) (hn:-9223372036854775808≤n∧n≤9223372036854775807) (h:∀ v∈ls,Val.Rng v):Val.Rng (.mk k n s ks ls)
inductive Sel.Rg:Sel→Prop
 | mk (k:Int) (al nm on:List Nat) (as:List Arg) (ds:List Dir) (sub:List Sel) (ha:∀ a∈as,a.v.Rng) (h:∀ s∈sub,Sel.Rg s):Sel.Rg (.mk k al nm on as ds sub)
theorem c3B {fs:List Sel} (h:∀ s∈fs,s.Rg):∀ s∈l7 fs,s.Rg:=fun s hs=>by
 obtain ⟨f,hf,hs⟩:=List.mem_flatMap.1 hs
 have:=h f hf
 cases this
 rename_i h2
 exact h2 s hs
/-- selections that may be told -/
structure SelX (N:Nat) (l:List Sel):Prop where
 ok:∀ s∈l,s.OK
 rg:∀ s∈l,s.Rg
 sz:sizes l≤N
structure REnv.OK (E:REnv) (B:St):Prop where
 ents:EntsAt E.v E.es B
 sorted:M1 E.es
 esl:E.es.length≤1000
 good:∀ e∈E.es,e.Good
 tvw:E.tv.weak1=E.tv∧E.tv.plain=true∧E.tv.weak=E.tv
 fld:∀ st,Gr B st→∀ typ n,EvQ tbl 84 [.ptr E.so 0,.str typ,.str n] st (fun a st'=>st'=st∧a=.tuple [.agg ((E.fld typ n).getD FDef.none).row,.bool (E.fld typ n).isSome])
 grp:∀ st,Gr B st→∀ typ l,SelX 11000000 l→EvQ tbl 83 [.ptr E.so 0,.agg [.list false E.ops,.list false E.frs],.str typ,.list false (l.map Sel.row),.agg E.vars] st (fun a st'=>Gr st st'∧∃ out gs,a=out.weak∧GrpS st.length st' out gs∧gs.map Grp.pr=E.grp typ l)
 grpx:∀ typ l N,SelX N l→∀ g∈E.grp typ l,g.2≠[]∧SelX (N+2001) g.2
 grpl:∀ typ l,SelX 11000000 l→(E.grp typ l).length≤90000000
 poss:∀ st,Gr B st→∀ n,EvQ tbl 42 [.ptr E.so 0,.str n] st (fun a st'=>st'=st∧a=.list false ((E.poss n).map d8))
 possl:∀ n,(E.poss n).length≤100000000
 leaf:∀ st,Gr B st→∀ n,EvQ tbl 192 [.ptr E.so 0,.str n] st (fun a st'=>st'=st∧a=.bool (E.leaf n))
 fits:∀ st,Gr B st→∀ n v,VX v→EvQ tbl 146 [.ptr E.so 0,.agg [.str n,.list false [],.bool false],.agg v.row] st (fun a st'=>Gr st st'∧a=.bool (E.fits n v))
 knows:∀ st,Gr B st→∀ n,EvQ tbl 19 [.agg [E.v,.bool E.whole,E.tv],.ptr E.so 0,.str n] st (fun a st'=>Gr st st'∧a=.bool (E.knows n))
 args:∀ st,Gr B st→∀ n f,E.fld n4 n=some f→f.ar.isEmpty=false→∀ as,ArgsOK as→(∀ a∈as,a.v.Rng)→EvQ tbl 135 [.ptr E.so 0,.agg f.row,.list false (as.map Arg.row),.agg E.vars] st (fun a st'=>Gr st st'∧∃ s,a=.tuple [.agg (E.args f as).1.row,.str s,.int .i64 (E.args f as).2])
 argsx:∀ f as,(E.args f as).1.names.length≤100000000∧((E.args f as).1.kind=6→(E.args f as).1.names.length=(E.args f as).1.vals.length)
/-- how telling goes on -/
structure Goes (E:REnv) (B:St) (s:RS) (pv:AV) (st:St) (s2:RS) (st':St) (pv':AV):Prop where
 run:RunAt E B s2 pv' st'
 rk:RK B pv st pv' st'
 steps:s.steps≤s2.steps
 few:s2.ps.length≤2*s2.steps
 more:s.ps.length≤s2.ps.length
def c05 (E:REnv) (B:St) (s:RS) (pv:AV) (st:St) (r:Val×RS) (a:AV) (st':St):Prop:=∃ pv',a=.agg r.1.row∧Goes E B s pv st r.2 st' pv'
def b3Z (E:REnv) (B:St) (s:RS) (pv:AV) (st:St) (r:a6X) (a:AV) (st':St):Prop:=∃ pv',a=.tuple [.agg r.1.1.row,.bool r.1.2]∧Goes E B s pv st r.2 st' pv'
/-- a group's fields lie in the store -/
structure FsAt (B:St) (pv:AV) (st:St) (fo:Nat) (fs:List Sel) (N:Nat):Prop where
 at_:st[fo]?=some (.cells (m8 fs))
 ne:fo≠B.length∧D0 pv≠some fo
 x:fs≠[]∧SelX N fs
theorem FsAt.keep {B:St} {pv pv':AV} {st st':St} {fo:Nat} {fs:List Sel} {N M:Nat} (h:FsAt B pv st fo fs N) (hk:RK B pv st pv' st') (hM:N≤M):FsAt B pv' st' fo fs M:=by
 refine ⟨hk.keep fo _ h.ne.1 h.ne.2 h.at_,⟨h.ne.1,fun hr=>?_⟩,h.x.1,h.x.2.ok,h.x.2.rg,Nat.le_trans h.x.2.sz hM⟩
 rcases hk.pv with e|e
 · rw [e] at hr; exact h.ne.2 hr
 · have:=e fo hr
   have:=(List.getElem?_eq_some_iff.1 h.at_).1
   omega
theorem PAt.len {b:Nat} {pv:AV} {ps:List (List (List Nat)×Int)} {st:St} (h:PAt b pv ps st):∀ (call:b9) (bx:AV) (st:St),D7 call [pv] bx st=some (.int .i64 ps.length,bx,st):=fun call bx st=>by
 rcases h with ⟨rfl,rfl⟩|⟨o,_,rfl,_⟩ <;> rfl
theorem c7g (a b:Nat):eqI (a:Int) (b:Int)=decide (a=b):=c5b a b
theorem a0j {E:REnv} {B:St} {s:RS} {pv:AV} {st:St} (h:RunAt E B s pv st) {t:TRef} {v:Val} {fs:List Sel} {fo:Nat} {key:List Nat} {path:List (List Nat)} (hp:path≠[]) (hpl:path.length≤s.steps) (hfew:s.ps.length+2≤2*s.steps) (V:VF)
 (hV:EvQ tbl 174 [.ptr B.length 0,.agg t.row,.agg v.row,.agg [.str key,.sl fo 0 fs.length 7],.list false (path.map d8)] st (c05 E B s pv st (V t v fs path s))) :
 EvQ tbl 133 [.ptr B.length 0,.agg t.row,.agg v.row,.agg [.str key,.sl fo 0 fs.length 7],.list false (path.map d8)] st (b3Z E B s pv st (s9 V t v fs path s)):=by
 have hob:=h.ob
 have hle:=h.le
 have hlen:=h.pr.len
 obtain ⟨w1,w2,w3,w4,w5,w6,w7⟩:=h.pr.wk
 unfold D5 at hob
 rw [t.row_eta,v.row_eta] at *
 unfold s9
 revert hV
 generalize V t v fs path s=r
 obtain ⟨out,s2⟩:=r
 intro hV
 dsimp only
 refine EvQ.body (fn:=a133) rfl rfl rfl ?_
 simp +contextual -implicitDefEqProofs only [a4L,SS,rA,rS,rL,rE,reduceCtorEq,hob,hlen,w1,w2,w3,w4,w5,w6,w7]
 refine WC.call hV rfl rfl ?_
 rintro _ st2 ⟨pv2,rfl,hG⟩
 have hob2:=hG.run.ob
 have hlen2:=hG.run.pr.len
 have hle2:=hG.run.le
 have hmore:=hG.more
 have hst:=hG.steps
 obtain ⟨x1,x2,x3,x4,x5,x6,x7⟩:=hG.run.pr.wk
 unfold D5 at hob2
 dsimp only at hob2 hlen2 hle2 hmore hst
 rw [out.row_eta]
 rcases e7 (eqI out.kind 0 && t.bang) with hc|hc
 · rw [if_pos hc]
   rw [Bool.and_eq_true] at hc
   simp +contextual -implicitDefEqProofs only [a4L,SS,rA,rS,rL,rE,reduceCtorEq,hc.1,hc.2,hob2,hlen2,c7g,x1,x2,x3,x4,x5,x6,x7]
   by_cases he:s2.ps.length=s.ps.length
   · rw [if_pos he]
     simp +contextual -implicitDefEqProofs only [a4L,SS,rA,rS,rL,rE,reduceCtorEq,he,decide_true]
     refine WC.call (a00 hG.run hp (by omega) (by dsimp only; omega) 9) rfl rfl ?_
     rintro _ st3 ⟨pv3,hr3,hk3⟩
     simp +contextual -implicitDefEqProofs only [a4L,SS,rA,rS,rL,rE,reduceCtorEq]
     refine WC.ret ⟨_,_,rfl,pv3,by rw [Val.none_row]; rfl,hr3,hG.rk.trans hk3,hst,?_,?_⟩
     · show (s2.ps++[(path,9)]).length≤2*s2.steps
       simp; omega
     · show s.ps.length≤(s2.ps++[(path,9)]).length
       simp; omega
   · rw [if_neg he]
     simp +contextual -implicitDefEqProofs only [a4L,SS,rA,rS,rL,rE,reduceCtorEq,decide_eq_false he]
     exact WC.ret ⟨_,_,rfl,pv2,by rw [Val.none_row]; rfl,hG⟩
 · rw [hc,if_neg (by decide)]
   rcases e7 (eqI out.kind 0) with h0|h0
   · rw [h0,Bool.true_and] at hc
     simp +contextual -implicitDefEqProofs only [a4L,SS,rA,rS,rL,rE,reduceCtorEq,h0,hc]
     exact WC.ret ⟨_,_,rfl,pv2,by rw [out.row_eta]; rfl,hG⟩
   · simp +contextual -implicitDefEqProofs only [a4L,SS,rA,rS,rL,rE,reduceCtorEq,h0]
     exact WC.ret ⟨_,_,rfl,pv2,by rw [out.row_eta]; rfl,hG⟩
end Go.Cb.CodeA
set_option maxRecDepth 20000
set_option linter.unusedSimpArgs false
set_option linter.unusedVariables false
namespace Go.Cb.CodeA
open Go Go.Cb
open Nat renaming reduceAdd→rA,reduceSub→rS,reduceLeDiff→rL,reduceEqDiff→rE
attribute [local congr] g8 i7 j0 j1 i6 g9 j5 j4 V.runR_congr
def b10 (E:REnv) (B:St) (n:Nat):Prop:=∀ {s:RS} {pv:AV} {st:St},RunAt E B s pv st→∀ {t:TRef} {v:Val} {fs:List Sel} {fo:Nat} {key:List Nat} {path:List (List Nat)},VX v→FsAt B pv st fo fs (2001*(s.steps+1))→path≠[]→path.length≤s.steps→s.ps.length+2≤2*s.steps→5001 < n+s.steps →
 EvQ tbl 174 [.ptr B.length 0,.agg t.row,.agg v.row,.agg [.str key,.sl fo 0 fs.length 7],.list false (path.map d8)] st (c05 E B s pv st (valF E n t v fs path s))
/-- what a thing is: an entity, or nothing at all -/
def a9H (x:Ent):Prop:=x.ks.length=x.ls.length∧x.ks.length≤6∧∀ v∈x.ls,VX v
theorem Ent.Good.x {x:Ent} (h:x.Good):a9H x:=⟨h.kl,h.le,fun v hv=>(h.sm v hv).vx⟩
def c5S (E:REnv) (B:St) (n:Nat):Prop:=∀ {s:RS} {pv:AV} {st:St},RunAt E B s pv st→∀ {typ:List Nat} {x:Ent} {l:List Sel} {path:List (List Nat)},a9H x→SelX (2001*(s.steps+1)) l→path.length≤s.steps→s.ps.length≤2*s.steps→5001 < n+s.steps+1 →
 EvQ tbl 39 [.ptr B.length 0,.str typ,.agg x.row,.list false (l.map Sel.row),.list false (path.map d8)] st (b3Z E B s pv st (A0 E (valF E n) typ x path (E.grp typ l) [] [] s))
theorem c4d {E:REnv} {B:St} (hE:E.OK B) {s:RS} {pv:AV} {st:St} (h:RunAt E B s pv st) (n:List Nat) {v:Val} (hv:VX v):EvQ tbl 193 [.ptr B.length 0,.str n,.agg v.row] st (fun a st'=>Gr st st'∧a=.bool (a2c E n v)):=by
 have hob:=h.ob
 have hf:=hE.fits st h.gr n v hv
 unfold D5 at hob
 rw [v.row_eta] at *
 unfold a2c
 refine EvQ.body (fn:=a193) rfl rfl rfl ?_
 simp +contextual -implicitDefEqProofs only [b32,SS,rA,rS,rL,rE,reduceCtorEq]
 refine WC.br (fun hc=>?_) (fun hc=>?_)
 · rw [if_pos hc]
   simp +contextual -implicitDefEqProofs only [b32,SS,rA,rS,rL,rE,reduceCtorEq]
   exact WC.ret ⟨_,_,rfl,Gr.refl _,rfl⟩
 · rw [show eqN n [73,68]=false from hc,if_neg (by decide)]
   simp +contextual -implicitDefEqProofs only [b32,SS,rA,rS,rL,rE,reduceCtorEq,hob]
   refine WC.call hf rfl rfl ?_
   rintro _ st2 ⟨hg,rfl⟩
   simp +contextual -implicitDefEqProofs only [b32,SS,rA,rS,rL,rE,reduceCtorEq]
   exact WC.ret ⟨_,_,rfl,hg,rfl⟩
theorem VX.vals {v:Val} (h:VX v):v.vals.length≤100000∧(∀ u∈v.vals,VX u)∧v.names=[]∧v.kind≠6:=by
 obtain ⟨k,n,s,ls,rfl,h2,h3,h4⟩:=h
 exact ⟨h3,fun u hu=>by obtain ⟨k,n,s,rfl,hk⟩:=h4 u hu; exact VX.one hk,rfl,h2⟩
theorem Goes.refl {E:REnv} {B:St} {s:RS} {pv:AV} {st:St} (h:RunAt E B s pv st) (hf:s.ps.length≤2*s.steps):Goes E B s pv st s st pv:=⟨h,RK.refl _ _ _,Nat.le_refl _,hf,Nat.le_refl _⟩
theorem Goes.trans {E:REnv} {B:St} {s s1 s2:RS} {pv pv1 pv2:AV} {st st1 st2:St} (h:Goes E B s pv st s1 st1 pv1) (h2:Goes E B s1 pv1 st1 s2 st2 pv2):Goes E B s pv st s2 st2 pv2:=⟨h2.run,h.rk.trans h2.rk,Nat.le_trans h.steps h2.steps,h2.few,Nat.le_trans h.more h2.more⟩
theorem Goes.grow {E:REnv} {B:St} {s s1:RS} {pv pv1:AV} {st st1 st2:St} (h:Goes E B s pv st s1 st1 pv1) (hg:Gr st1 st2):Goes E B s pv st s1 st2 pv1:=⟨h.run.grow hg,h.rk.trans (RK.of_gr hg hg.len),h.steps,h.few,h.more⟩
theorem RS.step_le (s:RS):s.steps≤s.step.steps∧s.step.steps≤s.steps+1∧(s.step.steps≤5000→s.step.steps=s.steps+1):=by
 unfold RS.step
 dsimp only
 split <;> omega
theorem a8Z {E:REnv} {B:St} {s:RS} {pv:AV} {st st':St} (hf:s.ps.length≤2*s.steps) (h1:RunAt E B s.step pv st') (h2:RK B pv st pv st'):Goes E B s pv st s.step st' pv :=
 ⟨h1,h2,s.step_le.1,by have:=s.step_le.1; show s.ps.length≤_; omega,Nat.le_refl _⟩
theorem a0U {E:REnv} {B:St} {s:RS} {pv:AV} {st:St} {path:List (List Nat)} {e:Int} {pv':AV} {st':St} (hf:s.ps.length+1≤2*s.steps) (h1:RunAt E B (s.prob path e) pv' st') (h2:RK B pv st pv' st'):Goes E B s pv st (s.prob path e) st' pv' :=
 ⟨h1,h2,Nat.le_refl _,by show (s.ps++[(path,e)]).length≤2*s.steps; simp; omega,by show s.ps.length≤(s.ps++[(path,e)]).length; simp⟩
theorem a9d {E:REnv} {B:St} {s:RS} {pv:AV} {st st2:St} (h:RunAt E B s pv st) (hf:s.ps.length≤2*s.steps) (hg:Gr st st2) (nm:List Nat) :
 ∃ st3,Goes E B s pv st (E.know s nm) st3 pv∧st3=if E.knows nm then st2 else st2.set B.length (.cells [.ptr E.so 0,.list false E.ops,.list false E.frs,E.v,.bool E.whole,E.tv,.int .u8 E.vk,.int .i64 E.vn,.str E.vs,.list false E.vks,.list false E.vls,pv,.bool true,.int .i64 s.steps]):=by
 have hG:=(Goes.refl h hf).grow hg
 rcases e7 (E.knows nm) with hkn|hkn
 · exact ⟨_,by rw [REnv.know,if_pos hkn]; exact hG,by rw [if_pos hkn]⟩
 · refine ⟨_,?_,by rw [hkn,if_neg (by decide)]⟩
   obtain ⟨a1,a2⟩:=hG.run.put (s':=⟨s.ps,true,s.steps⟩) rfl h.le
   rw [REnv.know,hkn,if_neg (by decide)]
   exact hG.trans ⟨a1,a2,Nat.le_refl _,hG.few,Nat.le_refl _⟩
theorem b3h (E:REnv) (s:RS) (nm:List Nat):(E.know s nm).steps=s.steps∧(E.know s nm).ps=s.ps:=by unfold REnv.know; split <;> exact ⟨rfl,rfl⟩
theorem b5R (s:List Nat) (ks:List (List Nat)):ks.map d8++[[.str s]]=(ks++[s]).map d8:=by rw [List.map_append]; rfl
theorem b8w {E:REnv} {B:St} (hE:E.OK B) {n:Nat} (ihV:b10 E B n) (ihO:c5S E B n):b10 E B (n+1):=by
 intro s pv st h t v fs fo key path hv hfs hp hpl hfew hfuel
 have hob:=h.ob
 have hle:=h.le
 obtain ⟨hvl,hvv,hvn,hv6⟩:=hv.vals
 obtain ⟨w1,w2,w3,w4,w5,w6,w7⟩:=h.pr.wk
 unfold D5 at hob
 rw [valF.eq_def]
 dsimp only
 have hpr:=fun e=>a00 h hp (by omega) (by omega) e
 have bad:∀ {P:AV×St→Prop},True:=trivial
 rw [t.row_eta,v.row_eta]
 refine EvQ.body (fn:=a174) rfl rfl rfl ?_
 simp +contextual -implicitDefEqProofs only [s4,SS,rA,rS,rL,rE,reduceCtorEq]
 rcases e7 (eqI v.kind 0) with h0|h0
 · rw [if_pos h0]
   simp +contextual -implicitDefEqProofs only [s4,SS,rA,rS,rL,rE,reduceCtorEq,h0]
   exact WC.ret ⟨_,_,rfl,pv,by rw [v.row_eta]; rfl,Goes.refl h (by omega)⟩
 rw [h0,if_neg (by decide)]
 cases t with
 | wrap u b =>
  dsimp only
  simp +contextual -implicitDefEqProofs only [s4,SS,rA,rS,rL,rE,reduceCtorEq,h0,TRef.nm,TRef.of,TRef.bang,List.length_cons,List.length_nil,show ltI 0 (((0+1:Nat)):Int)=true from rfl]
  rcases e7 (eqI v.kind 5) with h5|h5
  · rw [if_pos h5]
    simp +contextual -implicitDefEqProofs only [s4,SS,rA,rS,rL,rE,reduceCtorEq,h5,Bool.not_true,List.length_map]
    generalize hX0:B1 (valF E n) u fs path v.vals 0 [] s=R
    refine WC.loopR (fun mm fr st'=>∃ (i:Nat) (acc:List Val) (s1:RS) (pv1 v10 v11 v12 v13:AV),i≤v.vals.length∧mm=v.vals.length - i∧acc.length≤i∧Goes E B s pv st s1 st' pv1∧R=B1 (valF E n) u fs path (v.vals.drop i) i acc s1 ∧
     fr=[.ptr B.length 0,.agg [.str [],.list false [u.row],.bool b],.agg [.int .u8 v.kind,.int .i64 v.num,.str v.text,.list false (v.names.map d8),.list false (v.vals.map Val.row)],.agg [.str key,.sl fo 0 fs.length 7],.list false (path.map d8),.box [.str [],.list false [u.row],.bool b],
      .box [.int .u8 v.kind,.int .i64 v.num,.str v.text,.list false (v.names.map d8),.list false (v.vals.map Val.row)],.box [.str key,.sl fo 0 fs.length 7],.box [.int .u8 0,.int .i64 0,.str [],.list true [],.list true []],.box [.int .u8 5,.int .i64 0,.str [],.list true [],.list true (acc.map Val.row)],v10,v11,v12,v13,.undef,.undef,.undef,.list false (v.vals.map Val.row),.int .i64 v.vals.length,.int .i64 i])
     (m:=v.vals.length) ⟨0,[],s,pv,_,_,_,_,Nat.zero_le _,rfl,Nat.le_refl _,Goes.refl h (by omega),hX0.symm,rfl⟩ ?_
    rintro mm fr st1 ⟨i,acc,s1,pv1,v10,v11,v12,v13,hi,rfl,hacc,hG,hX,rfl⟩
    simp +contextual -implicitDefEqProofs only [s4,SS,rA,rS,rL,rE,reduceCtorEq,ltN]
    by_cases hil:i < v.vals.length
    rotate_left
    · rw [List.drop_of_length_le (by omega),B1] at hX
      simp +contextual -implicitDefEqProofs only [s4,SS,rA,rS,rL,rE,reduceCtorEq,hil]
      refine WC.leave ?_
      simp +contextual -implicitDefEqProofs only [s4,SS,rA,rS,rL,rE,reduceCtorEq]
      exact WC.ret ⟨_,_,rfl,pv1,by rw [hX,Val.row_eq]; rfl,hX ▸ hG⟩
    have e2:=a6F hil
    have hx:=hvv _ (List.getElem_mem hil)
    rw [List.drop_eq_getElem_cons hil,B1] at hX
    revert e2 hx hX
    generalize v.vals[i]=x
    intro hX e2 hx
    have hi5:i≤100000:=by omega
    rw [x.row_eta] at e2
    have hst:=hG.steps
    have hrle:=hG.run.le
    have hsl:=s1.step_le
    simp +contextual -implicitDefEqProofs only [s4,SS,rA,rS,rL,rE,reduceCtorEq,hil,e2]
    refine WC.call (b7B hG.run) rfl rfl ?_
    rintro _ st2 ⟨rfl,hr2,hk2⟩
    have hG2:=a8Z hG.few hr2 hk2
    by_cases c:s1.step.steps≤5000
    rotate_left
    · rw [if_neg c] at hX
      simp +contextual -implicitDefEqProofs only [s4,SS,rA,rS,rL,rE,reduceCtorEq,decide_eq_false c,Bool.not_false]
      refine WC.leaveR ?_
      simp +contextual -implicitDefEqProofs only [s4,SS,rA,rS,rL,rE,reduceCtorEq]
      exact WC.ret ⟨_,_,rfl,pv1,by rw [hX,Val.none_row]; rfl,hX ▸ hG.trans hG2⟩
    rw [if_pos c] at hX
    have hcl:=a4F path (by omega) st2
    have hr1:k6 1 (path.map d8)=true:=a3n path
    have g1:((path.map d8).length+1)*16≤2 ^ 47:=by rw [List.length_map]; omega
    have hfs2:=hfs.keep (hG.rk.trans hk2) (M:=2001*(s1.step.steps+1)) (by have:=hsl.1; omega)
    have hfw:=hG.few
    have hcq:=a0j hr2 (t:=u) (v:=x) (fs:=fs) (fo:=fo) (key:=key) (path:=path++[C9 (i:Int)]) (by simp) (by simp; omega) (by show s1.ps.length+2≤_; omega) (valF E n) (ihV hr2 hx hfs2 (by simp) (by simp; omega) (by show s1.ps.length+2≤_; omega) (by omega))
    revert hcq hX
    generalize s9 (valF E n) u x fs (path++[C9 (i:Int)]) s1.step=r
    obtain ⟨⟨y,ok⟩,s2⟩:=r
    intro hX hcq
    dsimp only at hX
    rw [u.row_eta,x.row_eta,← b5R] at hcq
    simp +contextual -implicitDefEqProofs only [s4,SS,rA,rS,rL,rE,reduceCtorEq,decide_eq_true c,Bool.not_true,u.row_eta,List.getElem?_cons_zero]
    refine WC.call hcl rfl rfl ?_
    rintro _ st2 ⟨rfl,rfl⟩
    simp +contextual -implicitDefEqProofs only [s4,SS,rA,rS,rL,rE,reduceCtorEq]
    refine WC.call (c5m i (by omega) st2) rfl rfl ?_
    rintro _ st2 ⟨rfl,rfl⟩
    simp +contextual -implicitDefEqProofs only [s4,SS,rA,rS,rL,rE,reduceCtorEq,hr1,g1]
    refine WC.call hcq rfl rfl ?_
    rintro _ st3 ⟨pv3,rfl,hG3⟩
    dsimp only at hG3
    rw [y.row_eta]
    have hGG:=(hG.trans hG2).trans hG3
    cases ok with
    | false =>
     rw [if_neg (by decide)] at hX
     simp +contextual -implicitDefEqProofs only [s4,SS,rA,rS,rL,rE,reduceCtorEq]
     refine WC.leaveR ?_
     simp +contextual -implicitDefEqProofs only [s4,SS,rA,rS,rL,rE,reduceCtorEq]
     exact WC.ret ⟨_,_,rfl,pv3,by rw [hX,Val.none_row]; rfl,hX ▸ hGG⟩
    | true =>
     rw [if_pos rfl] at hX
     have hr5:k6 5 (acc.map Val.row)=true:=a0u acc
     have g5:((acc.map Val.row).length+1)*80≤2 ^ 47:=by rw [List.length_map]; omega
     simp +contextual -implicitDefEqProofs only [s4,SS,rA,rS,rL,rE,reduceCtorEq,hr5,g5,r8 (show i+1 < 2 ^ 63 by omega)]
     exact WC.next (m':=v.vals.length - (i+1)) (by omega) ⟨i+1,acc++[y],s2,pv3,_,_,_,_,hil,rfl,by simp; omega,hGG,hX,by rw [List.map_append,List.map_cons,List.map_nil,y.row_eta]⟩
  · rw [h5,if_neg (by decide)]
    simp +contextual -implicitDefEqProofs only [s4,SS,rA,rS,rL,rE,reduceCtorEq,h5,Bool.not_false]
    refine WC.call (hpr 8) rfl rfl ?_
    rintro _ st2 ⟨pv2,h2,hk2⟩
    simp +contextual -implicitDefEqProofs only [s4,SS,rA,rS,rL,rE,reduceCtorEq]
    exact WC.ret ⟨_,_,rfl,pv2,by rw [Val.none_row]; rfl,a0U (by omega) h2 hk2⟩
 | base nm b =>
  dsimp only
  simp +contextual -implicitDefEqProofs only [s4,SS,rA,rS,rL,rE,reduceCtorEq,h0,TRef.nm,TRef.of,TRef.bang,List.length_nil,show ltI 0 ((0:Nat):Int)=false from rfl,hob]
  refine WC.call (hE.leaf st h.gr nm) rfl rfl ?_
  rintro _ st ⟨rfl,rfl⟩
  rcases e7 (E.leaf nm) with hl|hl
  · rw [if_pos hl]
    have hq:=c4d hE h nm hv
    rw [v.row_eta] at hq
    simp +contextual -implicitDefEqProofs only [s4,SS,rA,rS,rL,rE,reduceCtorEq,hl]
    refine WC.call hq rfl rfl ?_
    rintro _ st2 ⟨hg,rfl⟩
    have hG:=(Goes.refl h (by omega)).grow hg
    rcases e7 (a2c E nm v) with hb|hb
    · rw [if_pos hb]
      simp +contextual -implicitDefEqProofs only [s4,SS,rA,rS,rL,rE,reduceCtorEq,hb,Bool.not_true]
      exact WC.ret ⟨_,_,rfl,pv,by rw [v.row_eta]; rfl,hG⟩
    · rw [hb,if_neg (by decide)]
      simp +contextual -implicitDefEqProofs only [s4,SS,rA,rS,rL,rE,reduceCtorEq,hb,Bool.not_false]
      refine WC.call (a00 hG.run hp (by omega) (by omega) 8) rfl rfl ?_
      rintro _ st3 ⟨pv2,h2,hk2⟩
      simp +contextual -implicitDefEqProofs only [s4,SS,rA,rS,rL,rE,reduceCtorEq]
      exact WC.ret ⟨_,_,rfl,pv2,by rw [Val.none_row]; rfl,hG.trans (a0U (by omega) h2 hk2)⟩
  rw [hl,if_neg (by decide)]
  simp +contextual -implicitDefEqProofs only [s4,SS,rA,rS,rL,rE,reduceCtorEq,hl]
  rcases e7 (eqI v.kind 8) with h8|h8
  rotate_left
  · rw [h8,if_neg (by decide)]
    simp +contextual -implicitDefEqProofs only [s4,SS,rA,rS,rL,rE,reduceCtorEq,h8,Bool.not_false]
    refine WC.call (hpr 8) rfl rfl ?_
    rintro _ st2 ⟨pv2,h2,hk2⟩
    simp +contextual -implicitDefEqProofs only [s4,SS,rA,rS,rL,rE,reduceCtorEq]
    exact WC.ret ⟨_,_,rfl,pv2,by rw [Val.none_row]; rfl,a0U (by omega) h2 hk2⟩
  rw [if_pos h8]
  obtain ⟨t1,t2,t3⟩:=hE.tvw
  obtain ⟨y1,y2,y3,y4,y5,y6,y7⟩:=hE.ents.wk
  have pl:(AV.agg [E.v,.bool E.whole,E.tv]).plain=true:=rfl
  simp +contextual -implicitDefEqProofs only [s4,SS,rA,rS,rL,rE,reduceCtorEq,h8,Bool.not_true,hob,t1,t2,t3,y1,y2,y3,y4,y5,y6,y7]
  refine WC.call (hE.knows st h.gr nm) (by simp only [R.allPlain_c,R.allPlain_n,R.plain_agg]; rfl) (by simp only [List.map_cons,List.map_nil,L6,t1,y2]; rfl) ?_
  rintro _ st2 ⟨hg,rfl⟩
  have hG:=(Goes.refl h (by omega)).grow hg
  have hst2:=a9d h (by omega) hg nm
  obtain ⟨st3,hG3,hst3⟩:=hst2
  have hob2:=hG.run.ob
  unfold D5 at hob2
  obtain ⟨es,ep⟩:=b3h E s nm
  revert hst3
  have hob3:=hG3.run.ob
  have hfs3:=hfs.keep hG3.rk (M:=2001*((E.know s nm).steps+1)) (by rw [es]; exact Nat.le_refl _)
  have hgr3:=hG3.run.gr
  have hents:EntsAt E.v E.es st3:=hE.ents.gr hgr3
  have hget:=b3S hents hE.sorted (by have:=hE.esl; omega) v.text
  have hgood:∀ e,Z5 E.es v.text=some e→e.Good:=fun e he=>hE.good e (a2v he).1
  have hsub:=d15 hfs3.x.2.ok (by have:=hfs3.x.2.sz; omega) hfs3.at_ key
  have hobj:=fun (x:Ent) (hx:a9H x)=>ihO hG3.run (typ:=x.t) (x:=x) (l:=l7 fs) (path:=path) hx ⟨c3s hfs3.x.2.ok,c3B hfs3.x.2.rg,Nat.le_trans (a1R fs) hfs3.x.2.sz⟩ (by omega) (by rw [ep,es]; omega) (by omega)
  have hfin:∀ r:a6X,∀ st4 pv4,Goes E B (E.know s nm) pv st3 r.2 st4 pv4→Goes E B s pv st r.2 st4 pv4:=fun r st4 pv4 h=>hG3.trans h
  unfold D5 at hob3
  rcases e7 (E.knows nm) with hkn|hkn <;> rw [hkn] <;> intro hst3
  rw [if_pos rfl] at hst3
  rotate_left
  rw [if_neg (by decide)] at hst3
  all_goals
   simp +contextual -implicitDefEqProofs only [s4,SS,rA,rS,rL,rE,reduceCtorEq,Bool.not_true,Bool.not_false,hob2]
   rw [← hst3]
   clear hst3
  all_goals
   simp +contextual -implicitDefEqProofs only [s4,SS,rA,rS,rL,rE,reduceCtorEq,hob3,y1,y2,y3,y4,y5,y6,y7]
   refine WC.call hget (by simp only [R.allPlain_c,R.allPlain_n,R.plain_agg]; rfl) (by simp only [List.map_cons,List.map_nil,L6,y2]; rfl) ?_
   rintro _ st3 ⟨rfl,rfl⟩
   revert hgood
   cases hge:Z5 E.es v.text with
   | none =>
    intro _
    rw [Option.getD_none]
    simp +contextual -implicitDefEqProofs only [s4,SS,rA,rS,rL,rE,reduceCtorEq,Ent.none,Ent.row,List.map_nil,Option.isSome_none,Bool.not_false]
    exact WC.ret ⟨_,_,rfl,pv,by rw [Val.none_row]; rfl,hG3⟩
   | some x =>
    intro hgood
    have hgx:=hgood x rfl
    have hox:=hobj x hgx.x
    have ex:x.row=[.str x.t,.str x.id,.list false (x.ks.map d8),.list false (x.ls.map Val.row)]:=rfl
    rw [Option.getD_some,ex]
    rw [ex] at hox
    dsimp only
    simp +contextual -implicitDefEqProofs only [s4,SS,rA,rS,rL,rE,reduceCtorEq,Option.isSome_some,Bool.not_true,hob3]
    refine WC.call (hE.poss _ hgr3 nm) rfl rfl ?_
    rintro _ st3 ⟨rfl,rfl⟩
    simp +contextual -implicitDefEqProofs only [s4,SS,rA,rS,rL,rE,reduceCtorEq]
    refine WC.call (G3 (E.poss nm) (hE.possl nm) x.t _) rfl rfl ?_
    rintro _ st3 ⟨rfl,rfl⟩
    rcases e7 (j9 (E.poss nm) x.t) with hh|hh
    · rw [if_pos hh]
      simp +contextual -implicitDefEqProofs only [s4,SS,rA,rS,rL,rE,reduceCtorEq,hh,Bool.not_true]
      refine WC.call hsub rfl rfl ?_
      rintro _ st3 ⟨rfl,rfl⟩
      simp +contextual -implicitDefEqProofs only [s4,SS,rA,rS,rL,rE,reduceCtorEq]
      refine WC.call hox rfl rfl ?_
      rintro _ st4 ⟨pv4,rfl,hG4⟩
      have hG5:=hG3.trans hG4
      revert hG5
      generalize A0 E (valF E n) x.t x path (E.grp x.t (l7 fs)) [] [] (E.know s nm)=r
      obtain ⟨⟨y,ok⟩,s2⟩:=r
      intro hG5
      dsimp only at hG5 ⊢
      rw [y.row_eta]
      simp +contextual -implicitDefEqProofs only [s4,SS,rA,rS,rL,rE,reduceCtorEq]
      exact WC.ret ⟨_,_,rfl,pv4,by rw [y.row_eta]; rfl,hG5⟩
    · rw [hh,if_neg (by decide)]
      simp +contextual -implicitDefEqProofs only [s4,SS,rA,rS,rL,rE,reduceCtorEq,hh,Bool.not_false]
      exact WC.ret ⟨_,_,rfl,pv,by rw [Val.none_row]; rfl,hG3⟩
end Go.Cb.CodeA
/- What functions of the abstract machine answer. No conditions but those that each theorem names. -/
set_option maxRecDepth 20000
set_option linter.unusedSimpArgs false
set_option linter.unusedVariables false
namespace Go.Cb.CodeA
open Go Go.Cb
open Nat renaming reduceAdd→rA,reduceSub→rS,reduceLeDiff→rL,reduceEqDiff→rE
attribute [local congr] g8 i7 j0 j1 i6 g9 j5 j4 V.runR_congr
theorem c6J {x:Ent} (hx:a9H x) (n:List Nat):VX (atK 6 x.ks x.ls n):=by
 unfold atK
 rw [if_pos (show eqI 6 6=true from rfl)]
 cases hq:pI (fun y=>eqN n y) x.ks with
 | none=>exact VX.none
 | some i =>
  dsimp only
  cases hi:x.ls[i]? with
  | none=>exact VX.none
  | some v=>exact hx.2.2 v (List.mem_of_getElem? hi)
theorem b8T {α:Type} (l:List α):eqI (l.length:Int) 0=l.isEmpty:=by
 cases l with
 | nil=>rfl
 | cons a l=>rw [eqI_eq]; simp; omega
theorem c2G {l:List Ent} (hl:l.length≤100000):VX (.mk 5 0 [] [] (l.map fun y=>I9 y.id)) :=
 ⟨5,0,[],_,rfl,by decide,by rw [List.length_map]; exact hl,fun u hu=>by obtain ⟨y,_,rfl⟩:=List.mem_map.1 hu; exact ⟨_,_,_,rfl,by decide⟩⟩
theorem EntsAt.len {v:AV} {es:List Ent} {st:St} (h:EntsAt v es st):∀ (call:b9) (bx:AV) (st:St),D7 call [v] bx st=some (.int .i64 es.length,bx,st):=fun call bx st=>by
 rcases h with ⟨rfl,rfl⟩|⟨o,rfl,_⟩ <;> rfl
theorem EntsAt.get {v:AV} {es:List Ent} {st:St} (h:EntsAt v es st) {i:Nat} (hi:i < es.length):∃ a,(∀ (call:b9) (bx:AV) (st:St),H2 4 call [v,.int .i64 i] bx st=some (a,bx,st))∧(∀ (call:b9) (bx:AV),E8 true 4 call [a] bx st=some (.agg es[i].row,bx,st))∧a.stripB=a∧a.weak=a:=by
 rcases h with ⟨rfl,rfl⟩|⟨o,rfl,ho⟩
 · cases hi
 · refine ⟨.ptr o (i*4),fun call bx st=>?_,fun call bx=>a4y ho hi call bx,rfl,rfl⟩
   simp only [H2]
   rw [if_pos ⟨by omega,by omega,trivial⟩,Int.toNat_natCast,Nat.zero_add]
theorem b8L {E:REnv} {B:St} (hE:E.OK B) {n:Nat} (ihV:b10 E B n) {s:RS} {pv:AV} {st:St} (h:RunAt E B s pv st) {typ:List Nat} {x:Ent} (hx:a9H x) {f:FDef} {nm:List Nat} (hf:E.fld typ nm=some f) {fs:List Sel} {fo:Nat} {key:List Nat} {path:List (List Nat)} (hfs:FsAt B pv st fo fs (2001*(s.steps+1)))
 (hp:path≠[]) (hpl:path.length≤s.steps) (hfew:s.ps.length+2≤2*s.steps) (hfuel:5001 < n+s.steps) :
 EvQ tbl 87 [.ptr B.length 0,.str typ,.agg x.row,.agg f.row,.agg [.str key,.sl fo 0 fs.length 7],.list false (path.map d8)] st (b3Z E B s pv st (y8 E (valF E n) typ x f fs path s)):=by
 have hesl:=hE.esl
 have hob:=h.ob
 have hle:=h.le
 obtain ⟨w1,w2,w3,w4,w5,w6,w7⟩:=h.pr.wk
 unfold D5 at hob
 have hC:=fun (v:Val) (hv:VX v)=>a0j h (t:=f.t) (v:=v) (fs:=fs) (fo:=fo) (key:=key) hp hpl hfew (valF E n) (ihV h hv hfs hp hpl hfew hfuel)
 unfold y8 K6 n4 idN
 obtain ⟨v,e,hve⟩:∃ v e,E.args f (S2 fs)=(v,e):=⟨_,_,rfl⟩
 rw [hve]
 dsimp only
 rw [show x.row=[.str x.t,.str x.id,.list false (x.ks.map d8),.list false (x.ls.map Val.row)] from rfl,FDef.row]
 refine EvQ.body (fn:=a87) rfl rfl rfl ?_
 simp +contextual -implicitDefEqProofs only [K87,SS,rA,rS,rL,rE,reduceCtorEq]
 rcases e7 (eqN f.n [95,95,116,121,112,101,110,97,109,101]) with h0|h0
 · rw [if_pos h0]
   simp +contextual -implicitDefEqProofs only [K87,SS,rA,rS,rL,rE,reduceCtorEq,h0]
   exact WC.ret ⟨_,_,rfl,pv,by rw [Val.row_eq]; rfl,Goes.refl h (by omega)⟩
 rw [h0,if_neg (by decide)]
 simp +contextual -implicitDefEqProofs only [K87,SS,rA,rS,rL,rE,reduceCtorEq,h0]
 rcases e7 (eqN typ [81,117,101,114,121]) with h1|h1
 rotate_left
 · rw [h1,Bool.not_false,if_pos rfl]
   have hc:=hC _ (c6J hx f.n)
   rw [f.t.row_eta,(atK 6 x.ks x.ls f.n).row_eta] at hc
   simp +contextual -implicitDefEqProofs only [K87,SS,rA,rS,rL,rE,reduceCtorEq,h1,Bool.not_false]
   refine WC.call (b66 (k:=6) (by have:=hx.2.1; omega) (fun _=>hx.1) f.n st) rfl rfl ?_
   rintro _ st ⟨rfl,b,rfl⟩
   rw [(atK 6 x.ks x.ls f.n).row_eta]
   simp +contextual -implicitDefEqProofs only [K87,SS,rA,rS,rL,rE,reduceCtorEq]
   refine WC.call hc rfl rfl ?_
   rintro _ st2 ⟨pv2,rfl,hG⟩
   revert hG
   generalize s9 (valF E n) f.t (atK 6 x.ks x.ls f.n) fs path s=r
   obtain ⟨⟨y,ok⟩,s2⟩:=r
   intro hG
   dsimp only at hG ⊢
   rw [y.row_eta]
   simp +contextual -implicitDefEqProofs only [K87,SS,rA,rS,rL,rE,reduceCtorEq]
   exact WC.ret ⟨_,_,rfl,pv2,by rw [y.row_eta]; rfl,hG⟩
 rw [h1,Bool.not_true,if_neg (by decide)]
 have hb:=c51 f.t st
 rw [f.t.row_eta] at hb
 simp +contextual -implicitDefEqProofs only [K87,SS,rA,rS,rL,rE,reduceCtorEq,h1,Bool.not_true]
 refine WC.call hb rfl rfl ?_
 rintro _ st ⟨rfl,rfl⟩
 obtain ⟨t1,t2,t3⟩:=hE.tvw
 obtain ⟨y1,y2,y3,y4,y5,y6,y7⟩:=hE.ents.wk
 simp +contextual -implicitDefEqProofs only [K87,SS,rA,rS,rL,rE,reduceCtorEq,hob,t1,t2,t3,y1,y2,y3,y4,y5,y6,y7]
 refine WC.call (hE.knows st h.gr f.t.bs) (by simp only [R.allPlain_c,R.allPlain_n,R.plain_agg]; rfl) (by simp only [List.map_cons,List.map_nil,L6,t1,y2]; rfl) ?_
 rintro _ st2 ⟨hg,rfl⟩
 obtain ⟨st3,hG3,hst3⟩:=a9d h (by omega) hg f.t.bs
 have hob2:=((Goes.refl h (by omega)).grow hg).run.ob
 obtain ⟨es,ep⟩:=b3h E s f.t.bs
 have hob3:=hG3.run.ob
 have hfs3:=hfs.keep hG3.rk (M:=2001*((E.know s f.t.bs).steps+1)) (by rw [es]; exact Nat.le_refl _)
 have hgr3:=hG3.run.gr
 have hents:EntsAt E.v E.es st3:=hE.ents.gr hgr3
 have hC3:=fun (v:Val) (hv:VX v)=>a0j hG3.run (t:=f.t) (v:=v) (fs:=fs) (fo:=fo) (key:=key) hp (by omega) (by rw [ep,es]; exact hfew) (valF E n) (ihV hG3.run hv hfs3 hp (by omega) (by rw [ep,es]; exact hfew) (by omega))
 unfold D5 at hob2 hob3
 revert hst3
 rcases e7 (E.knows f.t.bs) with hkn|hkn <;> rw [hkn] <;> intro hst3
 rw [if_pos rfl] at hst3
 rotate_left
 rw [if_neg (by decide)] at hst3
 all_goals
  simp +contextual -implicitDefEqProofs only [K87,SS,rA,rS,rL,rE,reduceCtorEq,Bool.not_true,Bool.not_false,hob2,b8T]
  rw [← hst3]
  clear hst3
  rcases e7 f.ar.isEmpty with ha|ha
  · rw [if_pos ha]
    simp +contextual -implicitDefEqProofs only [K87,SS,rA,rS,rL,rE,reduceCtorEq,ha,hob3,hents.len,y1,y2,y3,y4,y5,y6,y7]
    refine WC.loopR (fun mm fr st'=>st'=st3∧∃ (i:Nat) (v14:AV),i≤E.es.length∧mm=E.es.length - i ∧
     fr=[.ptr B.length 0,.str typ,.agg [.str x.t,.str x.id,.list false (x.ks.map d8),.list false (x.ls.map Val.row)],.agg [.str f.n,.list false f.ar,.str f.t.nm,.list false f.t.of,.bool f.t.bang,.bool f.has,.int .u8 f.v.kind,.int .i64 f.v.num,.str f.v.text,.list false (f.v.names.map d8),.list false (f.v.vals.map Val.row)],
      .agg [.str key,.sl fo 0 fs.length 7],.list false (path.map d8),.box [.str x.t,.str x.id,.list false (x.ks.map d8),.list false (x.ls.map Val.row)],.box [.str f.n,.list false f.ar,.str f.t.nm,.list false f.t.of,.bool f.t.bang,.bool f.has,.int .u8 f.v.kind,.int .i64 f.v.num,.str f.v.text,.list false (f.v.names.map d8),.list false (f.v.vals.map Val.row)],
      .box [.str key,.sl fo 0 fs.length 7],.box [.int .u8 0,.int .i64 0,.str [],.list true [],.list true []],.bool false,.undef,.str f.t.bs,.box [.int .u8 5,.int .i64 0,.str [],.list true [],.list true ((((E.es.take i).filter fun y=>j9 (E.poss f.t.bs) y.t).map fun y=>I9 y.id).map Val.row)],v14,.undef,.undef,.undef,E.v,.int .i64 E.es.length,.int .i64 i])
     (m:=E.es.length) ⟨rfl,0,_,Nat.zero_le _,rfl,rfl⟩ ?_
    rintro mm fr st4 ⟨rfl,i,v14,hi,rfl,rfl⟩
    simp +contextual -implicitDefEqProofs only [K87,SS,rA,rS,rL,rE,reduceCtorEq,ltN]
    by_cases hil:i < E.es.length
    rotate_left
    · rw [List.take_of_length_le (by omega)]
      have hvx:=c2G (l:=E.es.filter fun y=>j9 (E.poss f.t.bs) y.t) (Nat.le_trans (List.length_filter_le _ _) (by have:=hE.esl; omega))
      have hc:=hC3 _ hvx
      rw [f.t.row_eta,Val.row_eq,List.map_nil] at hc
      revert hc
      generalize ((E.es.filter fun y=>j9 (E.poss f.t.bs) y.t).map fun y=>I9 y.id)=L
      intro hc
      simp +contextual -implicitDefEqProofs only [K87,SS,rA,rS,rL,rE,reduceCtorEq,hil]
      refine WC.leave ?_
      simp +contextual -implicitDefEqProofs only [K87,SS,rA,rS,rL,rE,reduceCtorEq]
      refine WC.call hc rfl rfl ?_
      rintro _ st2 ⟨pv2,rfl,hG⟩
      have hG:=hG3.trans hG
      revert hG
      generalize s9 (valF E n) f.t (.mk 5 0 [] [] L) fs path (E.know s f.t.bs)=r
      obtain ⟨⟨y,ok⟩,s2⟩:=r
      intro hG
      dsimp only at hG ⊢
      rw [y.row_eta]
      simp +contextual -implicitDefEqProofs only [K87,SS,rA,rS,rL,rE,reduceCtorEq]
      exact WC.ret ⟨_,_,rfl,pv2,by rw [y.row_eta]; rfl,hG⟩
    obtain ⟨a,ga1,ga2,ga3,ga4⟩:=hents.get hil
    have e3:E.es.take (i+1)=E.es.take i++[E.es[i]]:=by rw [List.take_add_one,List.getElem?_eq_getElem hil]; rfl
    have hfl:((((E.es.take i).filter fun y=>j9 (E.poss f.t.bs) y.t).map fun y=>I9 y.id).map Val.row).length≤1000:=by
     rw [List.length_map,List.length_map]
     have:=List.length_filter_le (fun y=>j9 (E.poss f.t.bs) y.t) (E.es.take i)
     rw [List.length_take] at this
     have:=hE.esl
     omega
    have hr5:k6 5 ((((E.es.take i).filter fun y=>j9 (E.poss f.t.bs) y.t).map fun y=>I9 y.id).map Val.row)=true:=a0u _
    have hnx:∀ e:Ent,E.es[i]=e→∀ (w:AV) b,j9 (E.poss f.t.bs) e.t=b→(((E.es.take (i+1)).filter fun y=>j9 (E.poss f.t.bs) y.t).map fun y=>I9 y.id).map Val.row=(((E.es.take i).filter fun y=>j9 (E.poss f.t.bs) y.t).map fun y=>I9 y.id).map Val.row++(if b then [[.int .u8 8,.int .i64 0,.str e.id,.list false [],.list false []]] else []):=fun e he w b hb=>by
     rw [e3,he,List.filter_append,List.map_append,List.map_append]
     cases b
     · simp [hb]
     · simp [hb,I9,Val.row_eq]
    have hgx:j9 (E.poss f.t.bs)=j9 (E.poss f.t.bs):=rfl
    generalize hE1:E.es[i]=e at *
    have hnx:=hnx e rfl .undef
    have ee:e.row=[.str e.t,.str e.id,.list false (e.ks.map d8),.list false (e.ls.map Val.row)]:=rfl
    rw [ee] at ga2
    have g5:((((E.es.take i).filter fun y=>j9 (E.poss f.t.bs) y.t).map fun y=>I9 y.id).map Val.row).length+1≤1001:=by omega
    simp +contextual -implicitDefEqProofs only [K87,SS,rA,rS,rL,rE,reduceCtorEq,hil,y1,ga1,ga2,ga3,ga4,hob3]
    refine WC.call (hE.poss _ hgr3 f.t.bs) rfl rfl ?_
    rintro _ st4 ⟨rfl,rfl⟩
    simp +contextual -implicitDefEqProofs only [K87,SS,rA,rS,rL,rE,reduceCtorEq]
    refine WC.call (G3 (E.poss f.t.bs) (hE.possl _) e.t _) rfl rfl ?_
    rintro _ st4 ⟨rfl,rfl⟩
    rcases e7 (j9 (E.poss f.t.bs) e.t) with hh|hh
    · simp +contextual -implicitDefEqProofs only [K87,SS,rA,rS,rL,rE,reduceCtorEq,hh,hr5,show (((((E.es.take i).filter fun y=>j9 (E.poss f.t.bs) y.t).map fun y=>I9 y.id).map Val.row).length+1)*80≤2 ^ 47 by omega,r8 (show i+1 < 2 ^ 63 by omega)]
      exact WC.next (m':=E.es.length - (i+1)) (by omega) ⟨rfl,i+1,_,hil,rfl,by rw [hnx _ hh]; rfl⟩
    · simp +contextual -implicitDefEqProofs only [K87,SS,rA,rS,rL,rE,reduceCtorEq,hh,r8 (show i+1 < 2 ^ 63 by omega)]
      exact WC.next (m':=E.es.length - (i+1)) (by omega) ⟨rfl,i+1,_,hil,rfl,by rw [hnx _ hh,if_neg (by decide),List.append_nil]⟩
  · rw [ha,if_neg (by decide)]
    obtain ⟨k0,al0,nm0,on0,as0,ds0,sub0,fs0,rfl⟩:∃ k al nm on as ds sub fs',fs=Sel.mk k al nm on as ds sub::fs':=by
     cases fs with
     | nil=>exact absurd rfl hfs3.x.1
     | cons s fs'=>obtain ⟨k,al,nm,on,as,ds,sub⟩:=s; exact ⟨_,_,_,_,_,_,_,_,rfl⟩
    have has:ArgsOK as0:=by
     have:=hfs3.x.2.ok _ (List.mem_cons_self ..)
     cases this
     assumption
    have hrg:∀ a∈as0,a.v.Rng:=by
     have:=hfs3.x.2.rg _ (List.mem_cons_self ..)
     cases this
     assumption
    have hat:=hfs3.at_
    have hcell:m8 (Sel.mk k0 al0 nm0 on0 as0 ds0 sub0::fs0)=[.int .u8 k0,.str al0,.str nm0,.str on0,.list false (as0.map Arg.row),.list false (ds0.map Dir.row),.list false (sub0.map Sel.row)]++m8 fs0:=by
     rw [← Sel.row_eq]; rfl
    rw [hcell] at hat
    have hlt0:((0:Int) < ((fs0.length+1:Nat):Int))=True:=by simp only [eq_iff_iff,iff_true]; omega
    have hq:=hE.args st3 hgr3 nm f (by rw [← hf,(t8 _ _).1 h1]; rfl) ha as0 has hrg
    unfold REnv.vars FDef.row at hq
    have hx2:=hE.argsx f as0
    have hve:E.args f as0=(v,e):=hve
    rw [hve] at hq hx2
    dsimp only at hq hx2
    rw [v.row_eta] at hq
    simp +contextual -implicitDefEqProofs only [K87,SS,rA,rS,rL,rE,reduceCtorEq,ha,hob3,List.length_cons,hlt0,if_true,Nat.zero_mul,R.ldAn_ptr,hat]
    refine WC.call hq rfl rfl ?_
    rintro _ st5 ⟨hg5,w,rfl⟩
    have hG5:=hG3.grow hg5
    have hr5:=hG3.run.grow hg5
    have hfs5:=hfs3.keep (RK.of_gr hg5 hg5.len) (Nat.le_refl _)
    simp +contextual -implicitDefEqProofs only [K87,SS,rA,rS,rL,rE,reduceCtorEq]
    rcases e7 (eqI e 0) with he|he
    · rw [if_pos he]
      have hvx:VX (I9 (atK v.kind v.names v.vals [105,100]).text):=VX.one (by decide)
      have hc:=a0j hr5 (t:=f.t) (v:=I9 (atK v.kind v.names v.vals [105,100]).text) (fo:=fo) (key:=key) hp (by omega) (by rw [ep,es]; exact hfew) (valF E n) (ihV hr5 hvx hfs5 hp (by omega) (by rw [ep,es]; exact hfew) (by omega))
      revert hc
      generalize hgz:s9 (valF E n) f.t (I9 (atK v.kind v.names v.vals [105,100]).text) _ path (E.know s f.t.bs)=r
      obtain ⟨⟨y,ok⟩,s2⟩:=r
      unfold I9
      rw [f.t.row_eta,Val.row_eq,List.map_nil,List.map_nil]
      intro hc
      simp +contextual -implicitDefEqProofs only [K87,SS,rA,rS,rL,rE,reduceCtorEq,he,Bool.not_true]
      refine WC.call (b66 hx2.1 hx2.2 [105,100] st5) rfl rfl ?_
      rintro _ st5 ⟨rfl,b,rfl⟩
      rw [(atK v.kind v.names v.vals [105,100]).row_eta]
      simp +contextual -implicitDefEqProofs only [K87,SS,rA,rS,rL,rE,reduceCtorEq]
      refine WC.call hc rfl rfl ?_
      rintro _ st6 ⟨pv2,rfl,hG⟩
      have hG:=hG5.trans hG
      dsimp only at hG ⊢
      rw [y.row_eta]
      simp +contextual -implicitDefEqProofs only [K87,SS,rA,rS,rL,rE,reduceCtorEq]
      exact WC.ret ⟨_,_,rfl,pv2,by rw [y.row_eta]; rfl,hG⟩
    · rw [he,if_neg (by decide)]
      simp +contextual -implicitDefEqProofs only [K87,SS,rA,rS,rL,rE,reduceCtorEq,he,Bool.not_false]
      refine WC.call (a00 hr5 hp (by omega) (by rw [ep]; omega) e) rfl rfl ?_
      rintro _ st6 ⟨pv2,h2,hk2⟩
      simp +contextual -implicitDefEqProofs only [K87,SS,rA,rS,rL,rE,reduceCtorEq]
      exact WC.ret ⟨_,_,rfl,pv2,by rw [Val.none_row]; rfl,hG5.trans (a0U (by rw [ep,es]; omega) h2 hk2)⟩
end Go.Cb.CodeA
set_option maxRecDepth 20000
set_option linter.unusedSimpArgs false
set_option linter.unusedVariables false
namespace Go.Cb.CodeA
open Go Go.Cb
open Nat renaming reduceAdd→rA,reduceSub→rS,reduceLeDiff→rL,reduceEqDiff→rE
attribute [local congr] g8 i7 j0 j1 i6 g9 j5 j4 V.runR_congr
/-- an object beside the runner's -/
structure Beside (B:St) (pv:AV) (st:St) (i:Nat) (x:Cb.Obj):Prop where
 at_:st[i]?=some x
 ne:i≠B.length∧D0 pv≠some i
theorem Beside.keep {B:St} {pv pv':AV} {st st':St} {i:Nat} {x:Cb.Obj} (h:Beside B pv st i x) (hk:RK B pv st pv' st'):Beside B pv' st' i x:=by
 refine ⟨hk.keep i _ h.ne.1 h.ne.2 h.at_,h.ne.1,fun hr=>?_⟩
 rcases hk.pv with e|e
 · rw [e] at hr; exact h.ne.2 hr
 · have:=e i hr
   have:=(List.getElem?_eq_some_iff.1 h.at_).1
   omega
theorem RunAt.beside {E:REnv} {B:St} {s:RS} {pv:AV} {st:St} (h:RunAt E B s pv st) {i:Nat} (hi:st.length≤i):i≠B.length∧D0 pv≠some i :=
 ⟨by have:=(List.getElem?_eq_some_iff.1 h.ob).1; omega,fun hr=>by have:=(h.pr.root i hr).2; omega⟩
/-- another object than the runner's changes -/
theorem Goes.other {E:REnv} {B:St} {s s1:RS} {pv pv1:AV} {st st1:St} (h:Goes E B s pv st s1 st1 pv1) (hst:B.length < st.length) {i:Nat} (hi:st.length≤i) (hr:D0 pv1≠some i) (x:Cb.Obj):Goes E B s pv st s1 (st1.set i x) pv1:=by
 have hk:∀ j y,j≠i→st1[j]?=some y→(st1.set i x)[j]?=some y:=fun j y hj hy=>by rw [List.getElem?_set_ne (by omega)]; exact hy
 refine ⟨⟨hk _ _ (by omega) h.run.ob,?_,fun j y hj=>hk j y (by have:=(List.getElem?_eq_some_iff.1 hj).1; omega) (h.run.gr j y hj),h.run.le,h.run.pl⟩,⟨fun j y h1 h2 h3=>hk j y (by have:=(List.getElem?_eq_some_iff.1 h3).1; omega) (h.rk.keep j y h1 h2 h3),by rw [List.length_set]; exact h.rk.len,h.rk.pv⟩,h.steps,h.few,h.more⟩
 rcases h.run.pr with hp|⟨o,h1,h2,h3⟩
 · exact .inl hp
 · exact .inr ⟨o,h1,h2,hk o _ (fun e=>hr (by rw [h2,e]; rfl)) h3⟩
theorem b9b {gs:List Grp} {i:Nat} (hi:i < gs.length):(2≤(List.drop (i*2) (q7 gs)).length)=True∧List.map AV.weak1 (List.take 2 (List.drop (i*2) (q7 gs)))=[.str gs[i].key,.sl gs[i].fo 0 gs[i].fs.length 7]:=by
 have h:=a1a gs i
 rw [List.drop_eq_getElem_cons hi,D8] at h
 rw [h]
 exact ⟨by simp,rfl⟩
theorem GrpS.w {c:Nat} {st:St} {out:AV} {gs:List Grp} (h:GrpS c st out gs):∃ (w:AV) (go:Nat),out.weak=w∧w.strip=w∧w.weak=w∧(∀ (call:b9) (bx:AV) (st:St),D7 call [w] bx st=some (.int .i64 gs.length,bx,st)) ∧
 (gs≠[]→c < go∧st[go]?=some (.cells (q7 gs))∧∀ i:Nat,i < gs.length→∀ (call:b9) (bx:AV) (st:St),H2 2 call [w,.int .i64 i] bx st=some (.ptr go (i*2),bx,st)):=by
 rcases h.out with ⟨rfl,rfl⟩|⟨o,rfl,h2,h3,_⟩
 · exact ⟨.list false [],0,rfl,rfl,rfl,fun _ _ _=>rfl,fun h=>absurd rfl h⟩
 · refine ⟨.sl o 0 gs.length 2,o,rfl,rfl,rfl,fun _ _ _=>rfl,fun _=>⟨h2,h3,fun i hi call bx st=>?_⟩⟩
   simp only [H2]
   rw [if_pos ⟨by omega,by omega,trivial⟩,Int.toNat_natCast,Nat.zero_add]
theorem Beside.other {B:St} {pv:AV} {st:St} {i j:Nat} {x y:Cb.Obj} (h:Beside B pv st i x) (hj:j≠i):Beside B pv (st.set j y) i x:=⟨by rw [List.getElem?_set_ne hj]; exact h.at_,h.ne⟩
theorem Beside.put {B:St} {pv:AV} {st:St} {i:Nat} {x y:Cb.Obj} (h:Beside B pv st i x):Beside B pv (st.set i y) i y:=⟨List.getElem?_set_self (List.getElem?_eq_some_iff.1 h.at_).1,h.ne⟩
theorem c6n (d o:Nat) (call:b9) (bx:AV) (st:St):C6 d call [.ptr o d,.ptr o 0] bx st=B9 call [.ptr o d] bx st:=by
 simp only [C6]
 rw [if_pos ⟨by simp,by simp⟩]
theorem a8Y {E:REnv} {B:St} (hE:E.OK B) {n:Nat} (ihV:b10 E B n):c5S E B n:=by
 intro s pv st h typ x l path hx hl hpl hfew hfuel
 have hob:=h.ob
 have hle:=h.le
 have hlt:B.length < st.length:=(List.getElem?_eq_some_iff.1 hob).1
 obtain ⟨w1,w2,w3,w4,w5,w6,w7⟩:=h.pr.wk
 have hG0:=Goes.refl h hfew
 have ho1:=j8 (y:=B7 [] []) hob
 have hgl:=hE.grpl typ l ⟨hl.ok,hl.rg,Nat.le_trans hl.sz (by omega)⟩
 have hgx:=hE.grpx typ l _ hl
 have hgq:=hE.grp (st++[B7 [] []]) (fun i y hy=>j8 (h.gr i y hy)) typ l ⟨hl.ok,hl.rg,Nat.le_trans hl.sz (by omega)⟩
 unfold D5 at hob ho1
 unfold REnv.vars at hgq
 rw [show x.row=[.str x.t,.str x.id,.list false (x.ks.map d8),.list false (x.ls.map Val.row)] from rfl]
 unfold B7 at *
 rw [List.map_nil,List.map_nil] at *
 refine EvQ.body (fn:=a39) rfl rfl rfl ?_
 simp +contextual -implicitDefEqProofs only [K39,SS,rA,rS,rL,rE,reduceCtorEq,m9,L4,ho1]
 refine WC.call hgq rfl rfl ?_
 rintro _ st1 ⟨hg1,out,gs,rfl,hG1,hgs⟩
 obtain ⟨w,go,ew,q1,q2,qlen,qgo⟩:=hG1.w
 rw [ew]
 have hgsl:gs.length≤90000000:=by rw [← hgs,List.length_map] at hgl; exact hgl
 rw [← hgs] at hgx ⊢
 have hb0:Beside B pv st1 st.length (B7 [] []):=⟨hg1 _ _ (m9 _ _),h.beside (Nat.le_refl _)⟩
 have hg01:Gr st st1:=fun i y hy=>hg1 i y (j8 hy)
 have hbg:gs≠[]→Beside B pv st1 go (.cells (q7 gs)):=fun hne=>⟨(qgo hne).2.1,h.beside (by have:=(qgo hne).1; simp at this; omega)⟩
 have hbf:∀ g∈gs,Beside B pv st1 g.fo (.cells (m8 g.fs)):=fun g hg=>⟨(hG1.fs g hg).2,h.beside (by have:=(hG1.fs g hg).1; simp at this; omega)⟩
 have hfo:∀ g∈gs,st.length≠g.fo:=fun g hg=>by have:=(hG1.fs g hg).1; simp at this; omega
 have hgo:gs≠[]→st.length≠go:=fun hne=>by have:=(qgo hne).1; simp at this; omega
 have hGz:=hG0.grow hg01
 simp +contextual -implicitDefEqProofs only [K39,SS,rA,rS,rL,rE,reduceCtorEq,q1,q2,qlen]
 clear hgq hG1 hg1 ho1
 generalize hX0:A0 E (valF E n) typ x path (gs.map Grp.pr) [] [] s=RR
 refine WC.loopR (fun mm fr st'=>∃ (i:Nat) (ks:List (List Nat)) (ls:List Val) (s1:RS) (pv1 v9 v10 v11 v12 v13 v14:AV),i≤gs.length∧mm=gs.length - i∧ks.length≤i∧ls.length≤i∧Goes E B s pv st s1 st' pv1∧Beside B pv1 st' st.length (B7 ks ls)∧(gs≠[]→Beside B pv1 st' go (.cells (q7 gs)))∧(∀ g∈gs,Beside B pv1 st' g.fo (.cells (m8 g.fs)))∧RR=A0 E (valF E n) typ x path ((gs.drop i).map Grp.pr) ks ls s1 ∧
  fr=[.ptr B.length 0,.str typ,.agg [.str x.t,.str x.id,.list false (x.ks.map d8),.list false (x.ls.map Val.row)],.list false (l.map Sel.row),.list false (path.map d8),.box [.str x.t,.str x.id,.list false (x.ks.map d8),.list false (x.ls.map Val.row)],.box [.int .u8 0,.int .i64 0,.str [],.list true [],.list true []],.bool false,.ptr st.length 0,v9,v10,v11,v12,v13,v14,w,.int .i64 gs.length,.int .i64 i])
  (m:=gs.length) ⟨0,[],[],s,pv,_,_,_,_,_,_,Nat.zero_le _,rfl,Nat.le_refl _,Nat.le_refl _,hGz,hb0,hbg,hbf,hX0.symm,rfl⟩ ?_
 clear hbg hbf hb0 hX0 hGz
 rintro mm fr st1 ⟨i,ks,ls,s1,pv1,v9,v10,v11,v12,v13,v14,hi,rfl,hkl,hll,hG,hbo,hbg,hbf,hX,rfl⟩
 have hao:=hbo.at_
 unfold B7 at hao
 simp +contextual -implicitDefEqProofs only [K39,SS,rA,rS,rL,rE,reduceCtorEq,ltN]
 by_cases hil:i < gs.length
 rotate_left
 · rw [List.drop_of_length_le (by omega),List.map_nil,A0] at hX
   simp +contextual -implicitDefEqProofs only [K39,SS,rA,rS,rL,rE,reduceCtorEq,hil]
   refine WC.leave ?_
   simp +contextual -implicitDefEqProofs only [K39,SS,rA,rS,rL,rE,reduceCtorEq,hao]
   exact WC.ret ⟨_,_,rfl,pv1,by rw [hX,Val.row_eq]; rfl,hX ▸ hG⟩
 have hne:gs≠[]:=fun e=>by rw [e] at hil; cases hil
 have hgm:=List.getElem_mem hil
 have hag:=(hbg hne).at_
 have qia:=(qgo hne).2.2 i hil
 obtain ⟨c1,c2⟩:=b9b hil
 have hbfi:=hbf _ hgm
 obtain ⟨gx1,gx2⟩:=hgx _ (List.mem_map_of_mem (f:=Grp.pr) hgm)
 rw [List.drop_eq_getElem_cons hil,List.map_cons] at hX
 have hinc:=r8 (show i+1 < 2 ^ 63 by omega)
 revert c2 hbfi gx1 gx2 hX
 generalize gs[i]=g
 obtain ⟨key,fo,fs⟩:=g
 intro hX c2 hbfi gx1 gx2
 dsimp only [Grp.pr] at hX c2 hbfi gx1 gx2
 obtain ⟨k0,al0,nm0,on0,as0,ds0,sub0,fs0,efs⟩:∃ k al nm on as ds sub fs',fs=Sel.mk k al nm on as ds sub::fs':=by
  cases fs with
  | nil=>exact absurd rfl gx1
  | cons s fs'=>obtain ⟨k,al,nm,on,as,ds,sub⟩:=s; exact ⟨_,_,_,_,_,_,_,_,rfl⟩
 have hcell:m8 fs=[.int .u8 k0,.str al0,.str nm0,.str on0,.list false (as0.map Arg.row),.list false (ds0.map Dir.row),.list false (sub0.map Sel.row)]++m8 fs0:=by
  rw [efs,← Sel.row_eq]; rfl
 have hlt0:((0:Int) < (fs.length:Int))=True:=by rw [efs,List.length_cons]; simp only [eq_iff_iff,iff_true]; omega
 have hfn:a0o fs=nm0:=by rw [efs]; rfl
 have hat:=hbfi.at_
 rw [hcell] at hat
 rw [A0,hfn] at hX
 have hob1:=hG.run.ob
 unfold D5 at hob1
 simp +contextual -implicitDefEqProofs only [K39,SS,rA,rS,rL,rE,reduceCtorEq,hil,q2,qia,hag,c1,c2,if_true,hob1,hlt0,Nat.zero_mul,R.ldAn_ptr,hat]
 refine WC.call (hE.fld _ hG.run.gr typ nm0) rfl rfl ?_
 rintro _ st1 ⟨rfl,rfl⟩
 revert hX
 cases hfd:E.fld typ nm0 with
 | none =>
  intro hX
  dsimp only at hX
  rw [Option.getD_none]
  simp +contextual -implicitDefEqProofs only [K39,SS,rA,rS,rL,rE,reduceCtorEq,FDef.none,FDef.row,Val.none,Val.kind,Val.num,Val.text,Val.names,Val.vals,List.map_nil,TRef.nm,TRef.of,TRef.bang,Option.isSome_none,Bool.not_false,hinc]
  exact WC.next (m':=gs.length - (i+1)) (by omega) ⟨i+1,ks,ls,s1,pv1,_,_,_,_,_,_,hil,rfl,by omega,by omega,hG,hbo,hbg,hbf,hX,rfl⟩
 | some f =>
  intro hX
  dsimp only at hX
  rw [Option.getD_some]
  have hsl:=s1.step_le
  have hst:=hG.steps
  have hrle:=hG.run.le
  have hfw:=hG.few
  simp +contextual -implicitDefEqProofs only [K39,SS,rA,rS,rL,rE,reduceCtorEq,FDef.row,Option.isSome_some,Bool.not_true]
  refine WC.call (b7B hG.run) rfl rfl ?_
  rintro _ st2 ⟨rfl,hr2,hk2⟩
  have hG2:=hG.trans (a8Z hG.few hr2 hk2)
  by_cases c:s1.step.steps≤5000
  rotate_left
  · rw [if_neg c] at hX
    simp +contextual -implicitDefEqProofs only [K39,SS,rA,rS,rL,rE,reduceCtorEq,decide_eq_false c,Bool.not_false]
    refine WC.leaveR ?_
    simp +contextual -implicitDefEqProofs only [K39,SS,rA,rS,rL,rE,reduceCtorEq]
    exact WC.ret ⟨_,_,rfl,pv1,by rw [hX,Val.none_row]; rfl,hX ▸ hG2⟩
  rw [if_pos c] at hX
  have hr1:k6 1 (path.map d8)=true:=a3n path
  have g1:((path.map d8).length+1)*16≤2 ^ 47:=by rw [List.length_map]; omega
  have hbf2:=hbfi.keep hk2
  have hps2:s1.step.ps.length+2≤2*s1.step.steps:=by show s1.ps.length+2≤_; omega
  have hfq:=b8L hE ihV hr2 (typ:=typ) hx hfd (fs:=fs) (fo:=fo) (key:=key) (path:=path++[key]) ⟨hbf2.at_,hbf2.ne,gx1,gx2.ok,gx2.rg,Nat.le_trans gx2.sz (by omega)⟩ (by simp) (by simp; omega) hps2 (by omega)
  rw [show x.row=[.str x.t,.str x.id,.list false (x.ks.map d8),.list false (x.ls.map Val.row)] from rfl,FDef.row,← b5R] at hfq
  revert hfq hX
  generalize y8 E (valF E n) typ x f fs (path++[key]) s1.step=r
  obtain ⟨⟨y,ok⟩,s2⟩:=r
  intro hX hfq
  dsimp only at hX
  simp +contextual -implicitDefEqProofs only [K39,SS,rA,rS,rL,rE,reduceCtorEq,decide_eq_true c,Bool.not_true]
  refine WC.call (a4F path (by omega) st2) rfl rfl ?_
  rintro _ st2 ⟨rfl,rfl⟩
  simp +contextual -implicitDefEqProofs only [K39,SS,rA,rS,rL,rE,reduceCtorEq,hr1,g1]
  refine WC.call hfq rfl rfl ?_
  rintro _ st3 ⟨pv3,rfl,hG3⟩
  dsimp only at hG3
  have hGG:=hG2.trans hG3
  have hk3:=hk2.trans hG3.rk
  have hbo3:=hbo.keep hk3
  have hbg3:=fun hne=>(hbg hne).keep hk3
  have hbf3:=fun g hg=>(hbf g hg).keep hk3
  rw [y.row_eta]
  cases ok with
  | false =>
   rw [if_neg (by decide)] at hX
   simp +contextual -implicitDefEqProofs only [K39,SS,rA,rS,rL,rE,reduceCtorEq]
   refine WC.leaveR ?_
   simp +contextual -implicitDefEqProofs only [K39,SS,rA,rS,rL,rE,reduceCtorEq]
   exact WC.ret ⟨_,_,rfl,pv3,by rw [hX,Val.none_row]; rfl,hX ▸ hGG⟩
  | true =>
   rw [if_pos rfl] at hX
   have hao3:=hbo3.at_
   have hget:∀ y:Cb.Obj,(st3.set st.length y)[st.length]?=some y:=fun y=>List.getElem?_set_self (List.getElem?_eq_some_iff.1 hao3).1
   have hrk:k6 1 (ks.map d8)=true:=a3n ks
   have hrl:k6 5 (ls.map Val.row)=true:=a0u ls
   have gk:((ks.map d8).length+1)*16≤2 ^ 47:=by rw [List.length_map]; omega
   have gl:((ls.map Val.row).length+1)*80≤2 ^ 47:=by rw [List.length_map]; omega
   have hnew:=hGG.other hlt (Nat.le_refl st.length) (hbo3.ne.2) (B7 (ks++[key]) (ls++[y]))
   have enew:B7 (ks++[key]) (ls++[y])=.cells [.int .u8 6,.int .i64 0,.str [],.list true (ks.map d8++[[.str key]]),.list true (ls.map Val.row++[[.int .u8 y.kind,.int .i64 y.num,.str y.text,.list false (y.names.map d8),.list false (y.vals.map Val.row)]])]:=by
    unfold B7
    rw [List.map_append,List.map_append,List.map_cons,List.map_nil,List.map_cons,List.map_nil,y.row_eta]
    rfl
   have hbo4:Beside B pv3 (st3.set st.length (B7 (ks++[key]) (ls++[y]))) st.length (B7 (ks++[key]) (ls++[y])):=hbo3.put
   have hbg4:=fun hne=>(hbg3 hne).other (y:=B7 (ks++[key]) (ls++[y])) (hgo hne)
   have hbf4:=fun g hg=>(hbf3 g hg).other (y:=B7 (ks++[key]) (ls++[y])) (hfo g hg)
   unfold B7 at hao3
   rw [enew] at hnew hbo4 hbg4 hbf4
   simp +contextual -implicitDefEqProofs only [K39,SS,rA,rS,rL,rE,reduceCtorEq,hao3,c6n,hget,List.getElem?_cons_zero,List.getElem?_cons_succ,List.set_cons_zero,List.set_cons_succ,hrk,hrl,gk,gl,List.set_set,hinc]
   exact WC.next (m':=gs.length - (i+1)) (by omega) ⟨i+1,ks++[key],ls++[y],s2,pv3,_,_,_,_,_,_,hil,rfl,by simp; omega,by simp; omega,hnew,by rw [enew]; exact hbo4,hbg4,hbf4,hX,rfl⟩
end Go.Cb.CodeA
