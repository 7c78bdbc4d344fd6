import Derived.Test.YtgaibigpannjfaaGreatDoorJs1
import Derived.Test.YtgaibigpannjfaaGreatDoorXs1
import Derived.Test.YtgaibigpannjfaaGreatDoorJ12a
import Derived.Test.YtgaibigpannjfaaGreatDoorJ12b
import Derived.Test.YtgaibigpannjfaaGreatDoorJ12c
import Derived.Test.YtgaibigpannjfaaGreatDoorJ18a
import Derived.Test.YtgaibigpannjfaaGreatDoorJ18b
import Derived.Test.YtgaibigpannjfaaGreatDoorJ18c
import Derived.Test.YtgaibigpannjfaaGreatDoorMaw
set_option maxRecDepth 20000
set_option linter.all false
namespace Go.Cb.CodeA
open Go Go.Cb
open Nat renaming reduceAdd→rA,reduceSub→rS,reduceLeDiff→rL,reduceEqDiff→rE
attribute [local congr] F2 H7 J0 I8 G6 G7 M4 M5 V.runR_congr
theorem b2D {es:List Ent} (hg:∀ e∈es,e.Good) (hl:es.length≤100000) {v u:AV} {st:St} (I:EntsAt v es st) (hu:EntsAt u es st):EvQ e7 10 [v,u] st (fun a st'=>st'=st∧a=.bool true):=by
 by_cases B:es=[]
 · subst B;have F:v=.nils∨∃ o,v=.sl o 0 0 4:=I.imp And.left fun⟨o,h,_⟩=>⟨o,h⟩
   have E:u=.nils∨∃ o,u=.sl o 0 0 4:=hu.imp And.left fun⟨o,h,_⟩=>⟨o,h⟩
   rcases F with rfl|⟨o,rfl⟩<;>rcases E with rfl|⟨p,rfl⟩
   all_goals
    refine wj (fn:=a10) rfl rfl rfl ?_;simp +contextual -implicitDefEqProofs only [K10,SS,rA,rS,rL,rE,reduceCtorEq,show eqI 0 ((0:Nat):Int)=true from rfl,show eqI ((0:Nat):Int) 0=true from rfl,a7A,Bool.not_true];refine wh (fun z fr st'=>st'=st∧fr=[_,_,.bool false,.int .i64 0]) (m:=0) ⟨rfl,rfl⟩ ?_;rintro z fr st' ⟨rfl,rfl⟩;simp +contextual -implicitDefEqProofs only [K10,SS,rA,rS,rL,rE,reduceCtorEq,show ltI 0 0=false from rfl,show ltI 0 ((0:Nat):Int)=false from rfl];refine wg ?_;simp +contextual -implicitDefEqProofs only [K10,SS,rA,rS,rL,rE,reduceCtorEq];exact wd ⟨_,_,rfl,rfl,rfl⟩
 · rcases I with⟨_,h⟩|⟨o,rfl,J⟩
   · exact absurd h B
   rcases hu with⟨_,h⟩|⟨p,rfl,L⟩
   · exact absurd h B
   refine wj (fn:=a10) rfl rfl rfl ?_;simp +contextual -implicitDefEqProofs only [K10,SS,rA,rS,rL,rE,reduceCtorEq,List.length_map,a7A,Bool.not_true];refine wh (fun z fr st'=>st'=st∧∃ (i:Nat),i≤es.length∧z=es.length - i∧fr=[.sl o 0 es.length 4,.sl p 0 es.length 4,.bool false,.int .i64 i]) (m:=es.length) ⟨rfl,0,Nat.zero_le _,rfl,rfl⟩ ?_;rintro z fr st' ⟨rfl,i,hi,rfl,rfl⟩;simp +contextual -implicitDefEqProofs only [K10,SS,rA,rS,rL,rE,reduceCtorEq,ltN,List.length_map];by_cases l:i < es.length
   · have x:=fun call bx=>a4c J l call bx
     have j:=fun call bx=>a4c L l call bx
     have y:=b8T (hg _ (List.getElem_mem l)) st';have C:((i:Int) < (es.length:Int))=True:=by simp; omega
     revert x j y;generalize es[i]=e;intro x j y;have G:e.row=[.str e.t,.str e.id,.list false (e.ks.map b9),.list false (e.ls.map Val.row)]:=rfl;rw[G]at y;simp only[G]at x j;simp +contextual -implicitDefEqProofs only [K10,SS,rA,rS,rL,rE,reduceCtorEq,l,x,j,C,if_true];refine wc y rfl rfl ?_;rintro _ _ ⟨rfl,rfl⟩;simp +contextual -implicitDefEqProofs only [K10,SS,rA,rS,rL,rE,reduceCtorEq,Bool.not_true,a0Q (show i+1 < 2 ^ 63 by omega)];exact we (m':=es.length - (i+1)) (by omega) ⟨rfl,i+1,l,rfl,rfl⟩
   · simp +contextual -implicitDefEqProofs only [K10,SS,rA,rS,rL,rE,reduceCtorEq,l];refine wg ?_;simp +contextual -implicitDefEqProofs only [K10,SS,rA,rS,rL,rE,reduceCtorEq];exact wd ⟨_,_,rfl,rfl,rfl⟩
theorem EvQ.ofQ {f:Nat} {as:List AV} {st:St} {P:AV→St→Prop} (h:EvQ e7 f as st P):EvQ tbl f as st P:=let ⟨r,st',h,hp⟩:=h; ⟨r,st',Ev.ofQ h,hp⟩
theorem Gr.of_old {T i:St} (h:∀ j,j < T.length→i[j]?=T[j]?):Gr T i:=fun o x l=>by rw[h o (q9 l)]; exact l
theorem ev0 {f:Nat} {r:AV} {st':St} (h:Ev tbl f [] [] r st') (T:St):∃ l,Ev tbl f [] T (r.rn (·+T.length)) l∧(∀ j,j < T.length→l[j]?=T[j]?)∧∀ o,l[o+T.length]?=(st'[o]?).map (Obj.rn (·+T.length)):=by
 have e:RN.rho T 0 id=(·+T.length):=by funext i; unfold RN.rho; rw[if_neg (by omega),Nat.sub_zero]
 obtain⟨l,t,_,x,u⟩:=RN.Ev.framed (T:=T) (n:=0) (q:=id) (fun a b h=>absurd h (by omega)) (fun a h=>absurd h (by omega)) b23 rfl (fun a h=>absurd h (by omega)) h;rw[e]at t u;exact⟨l,t,fun j y=>x j y fun a h=>absurd h (by omega),fun o=>u o⟩
theorem a8i (st:St):EvQ tbl 9 [] st (fun a st'=>a=.agg [.int .u8 6,.int .i64 0,.str [],.list false [],.list false []]∧Gr st st'):=by obtain⟨l,i,j,_⟩:=ev0 (f:=9) (r:=D4) (st':=[]) (Go.Cb.G.ev_ofG (k:=100) (by kernel_rfl)) st;exact EvQ.of_ev i ⟨rfl,Gr.of_old j⟩
theorem d4h:T_aw.length=130:=by kernel_rfl
theorem d2c:EvQ tbl 5 [] T_aw (fun a st'=>a=.tuple [.ptr 132 0,.ptr 160 0]∧Bs st'):=by obtain⟨t,j,_,l⟩:=ev0 (Go.Cb.G.ev_ofG e3S) T_aw;rw[d4h]at j l;refine EvQ.of_ev j ⟨by kernel_rfl,fun i _=>l i⟩
theorem Bs.gr {T j:St} (t:Bs T) (h:Gr T j):Bs j:=fun i hi=>by have l:=t i hi;rw[List.getElem?_eq_getElem (show i < T_b0.length by rw[b0_len]; exact hi),Option.map_some]at l ⊢;exact h _ _ l
theorem EL.gr {T i:St} {v:AV} {es:List Ent} (j:EL v es T) (h:Gr T i):EL v es i:=j.imp id fun⟨o,a,b,c⟩=>⟨o,a,h _ _ b,c⟩
theorem InOf.el {T j:St} {v:AV} {es:List Ent} (l:Bs T) (h:InOf T es v j):EL v es j:=by
 have t:161≤T.length:=l.lt (i:=30) (by decide);rcases h with⟨rfl,rfl,rfl⟩|⟨ext,rfl,rfl⟩
 · exact .inl ⟨rfl,rfl⟩
 · refine .inr ⟨_,rfl,?_,by omega⟩;rw[← List.append_assoc,← List.length_append];exact a03 _ _
theorem b8X (k:Nat):(fT k).length≤100:=by
 match k with
 | 0=>decide
 | 1=>decide
 | 2=>decide
 | 3=>decide
 | _+4=>exact of_decide_eq_true (by kernel_rfl)
theorem b62 {a:Int} (h:0≤a):∃ k:Nat,k < 5∧([[.str (120::fT 0)],[.str (120::fT 1)],[.str (120::fT 2)],[.str (120::fT 3)],[.str (120::fT 4)]]:List (List AV))[(a.tmod 5).toNat]?=some [.str (120::fT k)]:=by
 have j:0≤a.tmod 5:=Int.tmod_nonneg 5 h;have l:a.tmod 5 < 5:=Int.tmod_lt_of_pos a (by decide);obtain⟨k,hk⟩:∃ k:Nat,a.tmod 5=k:=⟨(a.tmod 5).toNat,by omega⟩
 rw[hk,Int.toNat_natCast];have i:k < 5:=by omega
 refine⟨k,i,?_⟩;match k,i with
 | 0,_=>rfl
 | 1,_=>rfl
 | 2,_=>rfl
 | 3,_=>rfl
 | 4,_=>rfl
theorem b9f {f g:Nat} {i es:List Ent} (h:(es,true)=rD [f] i):(rD [f,g] i).2=true:=by unfold rD at h ⊢;simp only[List.foldl_cons,List.foldl_nil]at h ⊢;rw[← h];unfold stK;split<;>rfl
theorem c4q {f g:Nat} {i es:List Ent} (h:(es,false)=rD [f] i):rD [f,g] i=rD [g] es:=by unfold rD at h ⊢;simp only[List.foldl_cons,List.foldl_nil]at h ⊢;rw[← h]
theorem c1H {k1 k2:Nat} (j:k1 < 5) (i:k2 < 5):m8 (two k1 k2):=by
 match k1,j with
 | 0,_=>exact b7i i
 | 1,_=>exact b8k i
 | 2,_=>exact b7A i
 | 3,_=>exact b7L i
 | 4,_=>exact b8p i
theorem b7a {k1 k2:Nat} (j:k1 < 5) (i:k2 < 5):m3 (two k1 k2):=by
 match k1,j with
 | 0,_=>exact b5Q i
 | 1,_=>exact b4L i
 | 2,_=>exact b3U i
 | 3,_=>exact b50 i
 | 4,_=>exact b46 i
theorem d2a {k c:Nat} (hk:k < 5) (t:c=120∨c=121) {s:List Nat} (hs:s=c86 k c) {T:St} (u:Bs T) {v0:AV} {i:List Ent} (z:EL v0 i T) (y:i.length≤13) (l:j0 i) (j:∀ e∈i,GJ e) :
 EvQ tbl 8 [.ptr 132 0,.agg [v0],.str s,.agg [.int .u8 6,.int .i64 0,.str [],.list false [],.list false []]] T (fun a st'=>∃ es bad v pv,DL [k] i v0 T a st' es bad v pv):=by
 subst hs;exact EvQ.ofQ (c78 (d:=one k c) (b9e t hk) (b7R t hk) (fun x B=>by rw[List.mem_singleton.1 B]; exact hk) (show 1≤2 by decide) u z (by show i.length+1≤14; omega) l j)
theorem e3M {k1 k2:Nat} (j:k1 < 5) (l:k2 < 5) {s:List Nat} (hs:s=b5E k1 k2) {T:St} (y:Bs T) {v0:AV} {i:List Ent} (B:EL v0 i T) (z:i.length≤12) (u:j0 i) (t:∀ e∈i,GJ e) :
 EvQ tbl 8 [.ptr 132 0,.agg [v0],.str s,.agg [.int .u8 6,.int .i64 0,.str [],.list false [],.list false []]] T (fun a st'=>∃ es bad v pv,DL [k1,k2] i v0 T a st' es bad v pv):=by
 subst hs;refine EvQ.ofQ (c78 (d:=two k1 k2) (c1H j l) (b7a j l) (fun x hx=>?_) (show 2≤2 by decide) y B (by show i.length+2≤14; omega) u t);rcases List.mem_cons.1 hx with rfl|hx
 · exact j
 · rw[List.mem_singleton.1 hx]; exact l
theorem DL.pv {ks:List Nat} {i es:List Ent} {v0 a v pv:AV} {T j:St} {bad:Bool} (D:DL ks i v0 T a j es bad v pv):∃ np:Nat,np≤2∧ltI 0 (np:Int)=bad∧eqI (np:Int) 0=!bad∧(∀ call bx st,J6 call [pv] bx st=some (.int .i64 np,bx,st))∧(pv.weak=pv∧pv.weak1=pv∧pv.strip=pv∧pv.stripB=pv∧pv.plain=true∧pv.cells=[pv]∧pv.cellsW=[pv]):=by
 cases bad with
 | false =>obtain⟨rfl,_⟩:=D.ok rfl;exact⟨0,by decide,rfl,rfl,fun _ _ _=>rfl,rfl,rfl,rfl,rfl,rfl,rfl,rfl⟩
 | true =>
  obtain⟨_,l,nn,rfl,hn⟩:=D.no rfl;refine⟨nn+1,by omega,?_,?_,fun _ _ _=>rfl,rfl,rfl,rfl,rfl,rfl,rfl,rfl⟩
  · rw[ltI_eq]; exact decide_eq_true (by omega)
  · match nn,hn with
    | 0,_=>rfl
    | 1,_=>rfl
theorem DL.el {ks:List Nat} {i es:List Ent} {v0 a v pv:AV} {T l:St} {bad:Bool} (D:DL ks i v0 T a l es bad v pv) (t:EL v0 i T) (hs:j0 i) (hg:∀ e∈i,GJ e):∃ j,EL v j l∧(j0 j∧j.length≤i.length+ks.length∧∀ e∈j,GJ e)∧((bad=false→j=es)∧(bad=true→j=i)):=by
 cases bad with
 | false =>have h:=b0n ks (i,false) hs hg;rw[show ks.foldl stK (i,false)=(es,false)from D.run.symm]at h;exact⟨es,(D.ok rfl).2,h,fun _=>rfl,fun h=>by cases h⟩
 | true=>exact⟨i,(D.no rfl).1 ▸ D.keep _ _ t,⟨hs,Nat.le_add_right _ _,hg⟩,fun h=>(by cases h),fun _=>rfl⟩
theorem e16:([120,58,32,99,114,101,97,116,101,68,111,103,40,105,100,58,32,34,97,34,44,32,105,110,112,117,116,58,32,123,98,97,114,107,115,58,32,116,114,117,101,125,41,32,123,98,97,114,107,115,125]:List Nat)=120::fT 0:=rfl
theorem e6D:([120,58,32,99,114,101,97,116,101,67,97,116,40,105,100,58,32,34,98,34,44,32,105,110,112,117,116,58,32,123,110,97,109,101,58,32,34,81,34,44,32,108,105,118,101,115,58,32,50,44,32,111,119,110,101,114,58,32,34,97,34,125,41,32,123,110,97,109,101,125]:List Nat)=120::fT 1:=rfl
theorem e8e:([120,58,32,117,112,100,97,116,101,80,101,114,115,111,110,40,105,100,58,32,34,99,34,44,32,105,110,112,117,116,58,32,123,97,103,101,58,32,53,44,32,102,114,105,101,110,100,115,58,32,91,34,97,34,93,125,41,32,123,97,103,101,125]:List Nat)=120::fT 2:=rfl
theorem e6b:([120,58,32,100,101,108,101,116,101,80,101,114,115,111,110,40,105,100,58,32,34,97,34,41,32,123,97,103,101,125]:List Nat)=120::fT 3:=rfl
theorem e1H:([120,58,32,100,101,108,101,116,101,67,97,116,40,105,100,58,32,34,98,34,41,32,123,95,95,116,121,112,101,110,97,109,101,125]:List Nat)=120::fT 4:=rfl
-- LAW
set_option maxHeartbeats 4000000 in
theorem e1A (l:List Thg) (h:∀ x∈l,x.OK) (a b:Int) (ha:0≤a∧a < 256) (hb:0≤b∧b < 256):EvQ tbl 3 [.list false (l.map Thg.row),.int .u8 a,.int .u8 b] [] (fun r st'=>r=.bool true):=by
 obtain⟨k1,d6,e1⟩:=b62 ha.1;obtain⟨k2,d7,e2⟩:=b62 hb.1;have l2:=b8X k1;have l3:=b8X k2;have wa:D9 .i64 a=a:=a1q (by omega) (by omega);have wb:D9 .i64 b=b:=a1q (by omega) (by omega);have ma:0≤a.tmod 5:=Int.tmod_nonneg 5 ha.1;have mb:0≤b.tmod 5:=Int.tmod_nonneg 5 hb.1;have e6:((1:Int)≤(((fT k2).length+1:Nat):Int))=True:=eq_true (by omega);have F:(10+((fT k1).length+1)≤2 ^ 62)=True:=eq_true (by omega);have I:(10+((fT k2).length+1)≤2 ^ 62)=True:=eq_true (by omega);have J:((fT k1).length+1+1+1+1+1+1+1+1+1+1+1+1≤2 ^ 62)=True:=eq_true (by omega);have L:((fT k2).length+1+1+1+1+1+1+1+1+1+1+1+1≤2 ^ 62)=True:=eq_true (by omega);have M:((fT k1++[32]).length+1+1+1+1+1+1+1+1+1+1+1+((fT k2).length+1)≤2 ^ 62)=True:=eq_true (by rw[List.length_append]; simp only[List.length_cons,List.length_nil]; omega);have N:((fT k1++[32]++121::fT k2).length+1+1+1+1+1+1+1+1+1+1+1+1≤2 ^ 62)=True:=eq_true (by simp only[List.length_append,List.length_cons,List.length_nil]; omega);have b1:(1+(fT k2).length≤2 ^ 62)=True:=eq_true (by omega);refine wj (fn:=a3) rfl rfl rfl ?_;simp +contextual -implicitDefEqProofs only [K3,SS,rA,rS,rL,rE,reduceCtorEq];refine wc (EvQ.of_ev (Go.Cb.G.ev_ofG e7f) (Q:=fun a st'=>a=c1P∧st'=T_aw) ⟨rfl,rfl⟩) rfl rfl ?_;rintro _ _ ⟨rfl,rfl⟩;simp +contextual -implicitDefEqProofs only [K3,SS,rA,rS,rL,rE,reduceCtorEq,c1P,Bool.not_true,wa,wb,z5,if_false,ma,mb,if_true,Nat.reduceLT,Option.map_some,e16,e6D,e8e,e6b,e1H,e1,e2,e6,List.take_length,b1];refine wc d2c rfl rfl ?_;rintro _ e3 ⟨rfl,d4⟩;simp +contextual -implicitDefEqProofs only [K3,SS,rA,rS,rL,rE,reduceCtorEq];refine wc (EvQ.ofQ (c1N l h e3)) rfl rfl ?_;rintro _ _ ⟨h7,es,rfl,l4,f2⟩;replace h7:=h7.symm;subst h7;simp +contextual -implicitDefEqProofs only [K3,SS,rA,rS,rL,rE,reduceCtorEq];refine wc (EvQ.ofQ (e8v es (by omega) e3)) rfl rfl ?_;rintro _ d1 ⟨v,rfl,f4,f1⟩;obtain⟨c1,n0,f6⟩:=b8E es;have b0:∀ e∈ofE es,GJ e:=fun e he=>(f2 e (f6 e he)).gj
 have hv:EL v (ofE es) d1:=f4.el d4;have f0:Bs d1:=d4.gr f1;obtain⟨w1,C,O,S,E,U,V⟩:=hv.at.wk;simp +contextual -implicitDefEqProofs only [K3,SS,rA,rS,rL,rE,reduceCtorEq,F,I,J,L,M,N,w1,C,O,S,E,U,V,Nat.reduceLT,if_true,if_false,Option.map_some];refine wc (a8i d1) rfl rfl ?_;rintro _ st2 ⟨rfl,W⟩;simp +contextual -implicitDefEqProofs only [K3,SS,rA,rS,rL,rE,reduceCtorEq,F,I,J,L,M,N,w1,C,O,S,E,U,V,Nat.reduceLT,if_true,if_false,Option.map_some];refine wc (d2a d6 (.inl rfl) rfl (f0.gr W) (hv.gr W) (by omega) c1 b0) (by simp only[y9,E,R.allPlain_c,R.allPlain_n]; rfl) (by simp only[List.map_cons,List.map_nil,T6,C]; rfl) ?_;rintro _ h0 ⟨i5,z,u,o2,D1⟩;obtain⟨h6,i0,rfl⟩:=D1.ans;obtain⟨c7,n2,g5,i3,i,p1,p2,p3,p4,p5,p6,p7⟩:=D1.pv;obtain⟨e4,hu,⟨d9,d8,d5⟩,f8,n7⟩:=D1.el (hv.gr W) c1 b0;obtain⟨u1,u2,u3,u4,u5,u6,u7⟩:=hu.at.wk;simp +contextual -implicitDefEqProofs only [K3,SS,rA,rS,rL,rE,reduceCtorEq,F,I,J,L,M,N,w1,C,O,S,E,U,V,p1,p2,p3,p4,p5,p6,p7,u1,u2,u3,u4,u5,u6,u7,Nat.reduceLT,if_true,if_false,Option.map_some];refine wc (a8i h0) rfl rfl ?_;rintro _ o5 ⟨rfl,X⟩;simp +contextual -implicitDefEqProofs only [K3,SS,rA,rS,rL,rE,reduceCtorEq,F,I,J,L,M,N,w1,C,O,S,E,U,V,p1,p2,p3,p4,p5,p6,p7,u1,u2,u3,u4,u5,u6,u7,Nat.reduceLT,if_true,if_false,Option.map_some];refine wc (d2a d7 (.inr rfl) rfl (D1.base.gr X) (hu.gr X) (by show e4.length≤13; simp only[List.length_cons,List.length_nil]at d8; omega) d9 d5) (by simp only[y9,u5,R.allPlain_c,R.allPlain_n]; rfl) (by simp only[List.map_cons,List.map_nil,T6,u2]; rfl) ?_;rintro _ h5 ⟨i9,bad2,x,o3,D2⟩;obtain⟨h8,i1,rfl⟩:=D2.ans;obtain⟨c8,n3,g6,i4,j,q1,q2,q3,q4,q5,q6,q7⟩:=D2.pv;obtain⟨d3,hx,⟨n5,f5,f3⟩,g0,o0⟩:=D2.el (hu.gr X) d9 d5;obtain⟨x1,x2,x3,x4,x5,x6,x7⟩:=hx.at.wk;simp +contextual -implicitDefEqProofs only [K3,SS,rA,rS,rL,rE,reduceCtorEq,F,I,J,L,M,N,w1,C,O,S,E,U,V,p1,p2,p3,p4,p5,p6,p7,u1,u2,u3,u4,u5,u6,u7,q1,q2,q3,q4,q5,q6,q7,x1,x2,x3,x4,x5,x6,x7,Nat.reduceLT,if_true,if_false,Option.map_some];refine wc (a8i h5) rfl rfl ?_;rintro _ o6 ⟨rfl,a0⟩;simp +contextual -implicitDefEqProofs only [K3,SS,rA,rS,rL,rE,reduceCtorEq,F,I,J,L,M,N,w1,C,O,S,E,U,V,p1,p2,p3,p4,p5,p6,p7,u1,u2,u3,u4,u5,u6,u7,q1,q2,q3,q4,q5,q6,q7,x1,x2,x3,x4,x5,x6,x7,Nat.reduceLT,if_true,if_false,Option.map_some];have f7:(109::117::116::97::116::105::111::110::32::123::120::(fT k1++[32]++121::fT k2++[125]))=b5E k1 k2:=by simp[b5E,txS]
 have B:eqI 0 0=true:=rfl;refine wc (e3M d6 d7 f7 (D2.base.gr a0) ((D2.keep _ _ ((D1.keep _ _ (hv.gr W)).gr X)).gr a0) (by omega) c1 b0) (by simp only[y9,E,R.allPlain_c,R.allPlain_n]; rfl) (by simp only[List.map_cons,List.map_nil,T6,C]; rfl) ?_;rintro _ o7 ⟨l0,c2,y,o4,D3⟩;obtain⟨h9,i2,rfl⟩:=D3.ans;obtain⟨o1,n4,e0,d2,t,r1,r2,r3,r4,r5,r6,r7⟩:=D3.pv;obtain⟨e5,hy,⟨n6,n1,l1⟩,g3,g4⟩:=D3.el ((D2.keep _ _ ((D1.keep _ _ (hv.gr W)).gr X)).gr a0) c1 b0;obtain⟨y1,y2,y3,y4,y5,y6,y7⟩:=hy.at.wk;have f9:=D3.keep _ _ ((D2.keep _ _ ((D1.keep _ _ (hv.gr W)).gr X)).gr a0);have g1:=D3.keep _ _ (hx.gr a0);have g7:D9 .i64 (a5t (c7:Int) (c8:Int))=((c7+c8:Nat):Int):=by rw[addI_eq]; exact a1q (by omega) (by omega)
 have d0:ltI 0 ((c7+c8:Nat):Int)=(z || bad2):=by rw[← g5,← g6,ltI_eq,ltI_eq,ltI_eq,← Bool.decide_or];exact decide_eq_decide.2 (by omega)
 have c3:((z || bad2)=true→c2=true)∧((z || bad2)=false→c2=false∧e5=d3):=by
  cases z with
  | true=>exact⟨fun _=>(congrArg Prod.snd D3.run).trans (b9f D1.run),fun h=>(by cases h)⟩
  | false =>have h1:=(D3.run.trans (c4q D1.run)).trans ((f8 rfl) ▸ D2.run.symm);obtain⟨h2,h3⟩:=Prod.mk.inj h1;refine⟨fun h=>h3.trans h,fun h=>⟨h3.trans h,?_⟩⟩;rw[g3 (h3.trans h),g0 h,h2]
 simp +contextual -implicitDefEqProofs only [K3,SS,rA,rS,rL,rE,reduceCtorEq,F,I,J,L,M,N,w1,C,O,S,E,U,V,p1,p2,p3,p4,p5,p6,p7,u1,u2,u3,u4,u5,u6,u7,q1,q2,q3,q4,q5,q6,q7,x1,x2,x3,x4,x5,x6,x7,r1,r2,r3,r4,r5,r6,r7,y1,y2,y3,y4,y5,y6,y7,Nat.reduceLT,if_true,if_false,Option.map_some,B,Bool.not_true,g7,d0,i,j,t];have b8:(ofE es).length≤100000:=by omega
 cases hb:(z || bad2)with
 | true =>have h3:=c3.1 hb;rw[g4 h3]at hy;rw[h3]at e0;rw[hb]at d0;simp +contextual -implicitDefEqProofs only [K3,SS,rA,rS,rL,rE,reduceCtorEq];refine wc (EvQ.ofQ (a9M b8 hy.at)) rfl (by simp only[List.map_cons,List.map_nil,T6,y2]) ?_;rintro a1 s1 ⟨Y,c4⟩;obtain⟨z1,z2,z3,z4,z5,z6,z7⟩:=Y.wk;simp +contextual -implicitDefEqProofs only [K3,SS,rA,rS,rL,rE,reduceCtorEq,F,I,J,L,M,N,w1,C,O,S,E,U,V,r1,r2,r3,r4,r5,r6,r7,y1,y2,y3,y4,y5,y6,y7,z1,z2,z3,z4,z5,z6,z7,Nat.reduceLT,if_true,if_false,Option.map_some,B,Bool.not_true,i,j,t];refine wc (EvQ.ofQ (a9M b8 (f9.gr c4).at)) rfl (by simp only[List.map_cons,List.map_nil,T6,C]) ?_;rintro a2 s2 ⟨Z,c6⟩;obtain⟨t1,t2,t3,t4,t5,t6,t7⟩:=Z.wk;simp +contextual -implicitDefEqProofs only [K3,SS,rA,rS,rL,rE,reduceCtorEq,F,I,J,L,M,N,w1,C,O,S,E,U,V,r1,r2,r3,r4,r5,r6,r7,y1,y2,y3,y4,y5,y6,y7,z1,z2,z3,z4,z5,z6,z7,t1,t2,t3,t4,t5,t6,t7,Nat.reduceLT,if_true,if_false,Option.map_some,B,Bool.not_true,i,j,t];refine wc (EvQ.ofQ (b2D (fun e he=>(b0 e he).good) b8 (Y.gr c6) Z)) (by simp only[y9,z5,t5,R.allPlain_c,R.allPlain_n]; rfl) (by simp only[List.map_cons,List.map_nil,z1,t1,z2,t2]) ?_;rintro _ _ ⟨rfl,rfl⟩;simp +contextual -implicitDefEqProofs only [K3,SS,rA,rS,rL,rE,reduceCtorEq,F,I,J,L,M,N,w1,C,O,S,E,U,V,r1,r2,r3,r4,r5,r6,r7,y1,y2,y3,y4,y5,y6,y7,z1,z2,z3,z4,z5,z6,z7,t1,t2,t3,t4,t5,t6,t7,Nat.reduceLT,if_true,if_false,Option.map_some,B,Bool.not_true,i,j,t,e0];exact wd ⟨_,_,rfl,rfl⟩
 | false =>
  obtain⟨h3,h4⟩:=c3.2 hb;rw[h4]at hy;rw[h3]at d2;rw[hb]at d0;have c0:d3.length≤100000:=by simp only[List.length_cons,List.length_nil]at f5 d8; omega
  simp +contextual -implicitDefEqProofs only [K3,SS,rA,rS,rL,rE,reduceCtorEq];simp +contextual -implicitDefEqProofs only [K3,SS,rA,rS,rL,rE,reduceCtorEq,F,I,J,L,M,N,w1,C,O,S,E,U,V,r1,r2,r3,r4,r5,r6,r7,y1,y2,y3,y4,y5,y6,y7,Nat.reduceLT,if_true,if_false,Option.map_some,B,Bool.not_true,i,j,t,d2,Bool.not_false];refine wc (EvQ.ofQ (a9M c0 hy.at)) rfl (by simp only[List.map_cons,List.map_nil,T6,y2]) ?_;rintro a1 s1 ⟨Y,c4⟩;obtain⟨z1,z2,z3,z4,z5,z6,z7⟩:=Y.wk;simp +contextual -implicitDefEqProofs only [K3,SS,rA,rS,rL,rE,reduceCtorEq,F,I,J,L,M,N,w1,C,O,S,E,U,V,r1,r2,r3,r4,r5,r6,r7,y1,y2,y3,y4,y5,y6,y7,z1,z2,z3,z4,z5,z6,z7,Nat.reduceLT,if_true,if_false,Option.map_some,B,Bool.not_true,i,j,t];refine wc (EvQ.ofQ (a9M c0 (g1.gr c4).at)) rfl (by simp only[List.map_cons,List.map_nil,T6,x2]) ?_;rintro a2 s2 ⟨Z,c6⟩;obtain⟨t1,t2,t3,t4,t5,t6,t7⟩:=Z.wk;simp +contextual -implicitDefEqProofs only [K3,SS,rA,rS,rL,rE,reduceCtorEq,F,I,J,L,M,N,w1,C,O,S,E,U,V,r1,r2,r3,r4,r5,r6,r7,y1,y2,y3,y4,y5,y6,y7,z1,z2,z3,z4,z5,z6,z7,t1,t2,t3,t4,t5,t6,t7,Nat.reduceLT,if_true,if_false,Option.map_some,B,Bool.not_true,i,j,t];refine wc (EvQ.ofQ (b2D (fun e he=>(f3 e he).good) c0 (Y.gr c6) Z)) (by simp only[y9,z5,t5,R.allPlain_c,R.allPlain_n]; rfl) (by simp only[List.map_cons,List.map_nil,z1,t1,z2,t2]) ?_;rintro _ _ ⟨rfl,rfl⟩;simp +contextual -implicitDefEqProofs only [K3,SS,rA,rS,rL,rE,reduceCtorEq,F,I,J,L,M,N,w1,C,O,S,E,U,V,r1,r2,r3,r4,r5,r6,r7,y1,y2,y3,y4,y5,y6,y7,z1,z2,z3,z4,z5,z6,z7,t1,t2,t3,t4,t5,t6,t7,Nat.reduceLT,if_true,if_false,Option.map_some,B,Bool.not_true,i,j,t];exact wd ⟨_,_,rfl,rfl⟩
theorem c09 (l:List Thg) (h:∀ x∈l,x.OK) (a b:Int) (i:0≤a∧a < 256) (j:0≤b∧b < 256):∃ k st',m6 tbl k 3 [.list false (l.map Thg.row),.int .u8 a,.int .u8 b] []=some (.bool true,st'):=by obtain⟨r,st',⟨k,hk⟩,rfl⟩:=e1A l h a b i j;exact⟨k,st',hk⟩
end Go.Cb.CodeA
