import Derived.Test.YtbibkdncfclnbaaGreatDoorLN
import Derived.Test.YtbibkdncfclnbaaGreatDoorMaw
import Derived.Test.YtbibkdncfclnbaaGreatDoorMbb
set_option maxRecDepth 20000
set_option linter.unusedSimpArgs false
set_option linter.unusedVariables false
namespace Go.Cb.CodeA
open Go Go.Cb
open Nat renaming reduceAdd→rA,reduceSub→rS,reduceLeDiff→rL,reduceEqDiff→rE
attribute [local congr] g9 j0 j3 j2 i7 i6 j7 j6 V.runR_congr
/-- a query of little takes few steps, and all is known -/
theorem a8O {d:List Sel} {es:List Ent} {v:AV} (hl:es.length≤12) (hg:∀ e∈es,e.Good) (hd:Nat.ble (s9 d) 5000=true):(R6 (E0 d es v) d).2.steps≤5000∧(R6 (E0 d es v) d).2.part=false:=by
 have hE:=b52 d v hl hg
 have h1:=a10 hE (a9X hE 5002) m2 Ent.none (by simp [Ent.none]) [] ((E0 d es v).grp m2 d) [] [] ⟨[],false,0⟩
 have h2:=hE.grp m2 d
 have h3:=Nat.le_of_ble_eq_true hd
 have h4:=a3f (a3L (E:=E0 d es v) fun _=>rfl) (J7 (a3L (E:=E0 d es v) fun _=>rfl) 5002) m2 Ent.none [] ((E0 d es v).grp m2 d) [] [] ⟨[],false,0⟩
 refine ⟨?_,h4⟩
 have h1:(R6 (E0 d es v) d).2.steps≤0+M9 ((E0 d es v).grp m2 d):=h1
 omega
theorem c3d {d:List Sel} {es:List Ent} {v:AV} (hl:es.length≤12) (hg:∀ e∈es,e.Good) (hd:Nat.ble (s9 d) 5000=true):a7o (E0 d es v) d=(0,(R6 (E0 d es v) d).1.1,(R6 (E0 d es v) d).2.ps):=by
 obtain ⟨h1,h2⟩:=a8O (v:=v) hl hg hd
 unfold a7o
 rw [if_neg (by omega),h2,if_neg (by decide)]
theorem a7V {d:List Sel} {es:List Ent} {v:AV} {n:Nat} {x:Ent} {f:FDef} (hn:eqN f.n E1=false) (ha:f.ar.isEmpty=true) (fs:List Sel) (path:Pth) (s:RS):∃ w s1,r5 (E0 d es v) (valF (E0 d es v) n) m2 x f fs path s=n5 (valF (E0 d es v) n) f.t w fs path s1:=by
 unfold r5
 rw [hn,if_neg (by decide),show eqN m2 m2=true from rfl,Bool.not_true,if_neg (by decide),if_pos ha]
 exact ⟨_,_,rfl⟩
def sP:Sel:=.mk 1 [] a1A [] [] [] [I9,L6]
def sQ:Sel:=.mk 1 [] a5D [] [] [] [.mk 3 [] [] [67,97,116] [] [] [.mk 1 [] [110,97,109,101] [] [] [] [],.mk 1 [] [108,105,118,101,115] [] [] [] []]]
/-- a value that is told of a list that is never null -/
theorem a8e {E:REnv} {n:Nat} {P:Val→Prop} {u:TRef} {w:Val} {fs:List Sel} {path:Pth} {s:RS} (hc:∀ m x p s,(n5 (valF E m) u x fs p s).1.2=true→P (n5 (valF E m) u x fs p s).1.1) (h:(n5 (valF E n) (.wrap u true) w fs path s).1.2=true) :
 eqI (n5 (valF E n) (.wrap u true) w fs path s).1.1.kind 5=true∧∀ y∈(n5 (valF E n) (.wrap u true) w fs path s).1.1.vals,P y:=by
 obtain ⟨h1,h2⟩:=Z0 h
 rw [h1]
 obtain ⟨ys,e1,e2⟩:=a5w (P:=P) (E:=E) hc (h2 rfl)
 rw [e1]
 exact ⟨rfl,e2⟩
theorem c2F {d:List Sel} {es:List Ent} {v:AV} (hl:es.length≤12) (hg:∀ e∈es,e.Good):(R6 (E0 d es v) d).1.1.Fin :=
 a3a (E:=E0 d es v) (b2P d v hl hg) (b2M (b2P d v hl hg) 5002) (J7 (J6 _) 5002) (J7 (a0d _) 5002) m2 (x:=Ent.none) (by simp [Ent.none]) [] ((E0 d es v).grp m2 d) [] [] ⟨[],false,0⟩ (by simp) (Nat.zero_le _) (Nat.zero_le _) (by decide)
/-- what is told of a list of things that are never null -/
theorem b4r {es:List Ent} {v:AV} (hl:es.length≤12) (hg:∀ e∈es,e.Good):∃ D ps,a7o (E0 dN0 es v) dN0=(0,D,ps)∧D.Fin∧((eqI D.kind 0=true∧0 < ps.length)∨(eqI D.kind 0=false∧∃ a b,D.vals=[a,b]∧eqI a.kind 5=true∧eqI b.kind 5=true∧∀ u∈a.vals,a7F u)):=by
 refine ⟨_,_,c3d hl hg (by kernel_rfl),c2F hl hg,?_⟩
 obtain ⟨hst,_⟩:=a8O (v:=v) (d:=dN0) hl hg (by kernel_rfl)
 rcases e8 (R6 (E0 dN0 es v) dN0).1.2 with ho|ho
 rotate_left
 · obtain ⟨h1,h2⟩:=a0N (E:=E0 dN0 es v) (J7 (a7J _) 5002) (J7 (J6 _) 5002) m2 Ent.none [] ((E0 dN0 es v).grp m2 dN0) [] [] ⟨[],false,0⟩ ho
   have h1:(R6 (E0 dN0 es v) dN0).1.1=Val.none:=h1
   left
   rw [h1]
   exact ⟨rfl,h2 hst⟩
 right
 revert ho
 unfold R6
 rw [a6Z,show I8 { K0 dN0 with typ:=m2 } dN0=[sP,sQ] from rfl,show H3 [sP,sQ]=[(a1A,[sP]),(a5D,[sQ])] from rfl]
 intro ho
 obtain ⟨a,s2,h1,h2⟩:=a2Y (f:=fPeople) (show (E0 dN0 es v).fld m2 (H7 [sP])=some fPeople from rfl) ho
 rw [h2] at ho ⊢
 obtain ⟨b,s3,h3,h4⟩:=a2Y (f:=fPets) (show (E0 dN0 es v).fld m2 (H7 [sQ])=some fPets from rfl) ho
 rw [h4,r8]
 obtain ⟨w1,s4,e1⟩:=a7V (d:=dN0) (es:=es) (v:=v) (n:=5002) (x:=Ent.none) (f:=fPeople) rfl rfl [sP] ([]++[a1A]) (RS.step ⟨[],false,0⟩)
 obtain ⟨w2,s5,e2⟩:=a7V (d:=dN0) (es:=es) (v:=v) (n:=5002) (x:=Ent.none) (f:=fPets) rfl rfl [sQ] ([]++[a5D]) s2.step
 rw [e1] at h1
 rw [e2] at h3
 have p1:=a8e (E:=E0 dN0 es v) (n:=5002) (P:=a7F) (u:=.base n7 true) (w:=w1) (fs:=[sP]) (path:=[]++[a1A]) (s:=s4) (fun m x p s h=>by
  have h5:=Z0 h
  rw [h5.1]
  exact b09 hg rfl (h5.2 rfl)) (by rw [show TRef.wrap (.base n7 true) true=fPeople.t from rfl,h1])
 have p2:=a8e (E:=E0 dN0 es v) (n:=5002) (P:=fun _=>True) (u:=.base b4p true) (w:=w2) (fs:=[sQ]) (path:=[]++[a5D]) (s:=s5) (fun _ _ _ _ _=>trivial) (by rw [show TRef.wrap (.base b4p true) true=fPets.t from rfl,h3])
 rw [show TRef.wrap (.base n7 true) true=fPeople.t from rfl,h1] at p1
 rw [show TRef.wrap (.base b4p true) true=fPets.t from rfl,h3] at p2
 exact ⟨rfl,a,b,rfl,p1.1,p2.1,p1.2⟩
theorem c2h:EvQ tbl 11 [] [] (fun a st'=>st'=b4H∧a=.bool true):=⟨_,_,Go.Cb.G.ev_ofG d3U,rfl,rfl⟩
theorem c59:EvQ tbl 12 [] b4H (fun a st'=>st'=a7x∧a=.tuple [.ptr 52 0,.ptr 80 0]):=⟨_,_,Go.Cb.G.ev_ofG d4b,rfl,rfl⟩
theorem nulls_law (l:List Thg) (hl:∀ x∈l,x.OK):EvQ tbl 5 [.list false (l.map Thg.row)] [] (fun a _=>a=.bool true):=by
 refine EvQ.body (fn:=a5) rfl rfl rfl ?_
 simp +contextual -implicitDefEqProofs only [K5,SS,rA,rS,rL,rE,reduceCtorEq]
 refine WC.call c2h rfl rfl ?_
 rintro _ _ ⟨rfl,rfl⟩
 simp +contextual -implicitDefEqProofs only [K5,SS,rA,rS,rL,rE,reduceCtorEq,Bool.not_true]
 refine WC.call c59 rfl rfl ?_
 rintro _ _ ⟨rfl,rfl⟩
 have hrd:=c1D d2Z
 unfold mo0 tN0 c4p at hrd
 simp +contextual -implicitDefEqProofs only [K5,SS,rA,rS,rL,rE,reduceCtorEq]
 refine WC.call hrd rfl rfl ?_
 rintro _ st1 ⟨rfl,hg1,_⟩
 simp +contextual -implicitDefEqProofs only [K5,SS,rA,rS,rL,rE,reduceCtorEq]
 refine WC.call (b89 l hl st1) rfl rfl ?_
 rintro _ st1 ⟨rfl,L,rfl,hL,hg⟩
 simp +contextual -implicitDefEqProofs only [K5,SS,rA,rS,rL,rE,reduceCtorEq]
 refine WC.call (d3e L (by omega) st1) rfl rfl ?_
 rintro _ st2 ⟨v0,rfl,hv0,hg2⟩
 obtain ⟨hs0,hl0,hm0⟩:=b6E L
 have hge:∀ e∈ofE L,e.Good:=fun e he=>hg e (hm0 e he)
 obtain ⟨w1,w2,w3,w4,w5,w6,w7⟩:=hv0.wk
 have hq:=qry (d:=dN0) (hg1.trans hg2) hv0 hs0 (by omega) hge (c1t (by kernel_rfl))
 obtain ⟨D,ps,hR,hfin,hD⟩:=b4r (v:=v0) (show (ofE L).length≤12 by omega) hge
 rw [hR] at hq
 unfold b4j at hq
 simp +contextual -implicitDefEqProofs only [K5,SS,rA,rS,rL,rE,reduceCtorEq,w1,w2,w3,w4,w5,w6,w7]
 refine WC.call hq (by simp only [R.allPlain_c,R.allPlain_n,R.plain_agg]; rfl) (by simp only [List.map_cons,List.map_nil,R5,w2]; rfl) ?_
 rintro _ st3 ⟨hg3,pv,rfl,hpv⟩
 obtain ⟨u1,u2,u3,u4,u5,u6,u7⟩:=hpv.wk
 unfold c3w
 dsimp only at hpv ⊢
 simp +contextual -implicitDefEqProofs only [K5,SS,rA,rS,rL,rE,reduceCtorEq,show eqI 0 0=true from rfl,Bool.not_true,u1,u2,u3,u4,u5,u6,u7]
 have hplen:∀ (call:b9) (bx:AV) (st:St),D2 call [pv] bx st=some (.int .i64 ps.length,bx,st):=fun call bx st=>by
  rcases hpv with ⟨rfl,rfl|rfl⟩|⟨o,rfl,_⟩ <;> rfl
 rcases hD with ⟨h0,hp⟩|⟨h0,a,b,hab,ha,hb,hP⟩
 · have hp':ltI 0 (ps.length:Int)=true:=by rw [ltI_eq]; simp; omega
   simp +contextual -implicitDefEqProofs only [K5,SS,rA,rS,rL,rE,reduceCtorEq,h0,hplen,hp',u1,u2,u3,u4,u5,u6,u7]
   exact WC.ret ⟨_,_,rfl,rfl⟩
 have hfa:a.Fin:=hfin.vals a (by rw [hab]; simp)
 have hal:a.vals.length < 2 ^ 62:=by cases hfa with|mk k n s ks ls hk hl h=>exact hl
 rw [hab,List.map_cons,List.map_cons,List.map_nil,a.row_eta,b.row_eta]
 simp +contextual -implicitDefEqProofs only [K5,SS,rA,rS,rL,rE,reduceCtorEq,h0,List.getElem?_cons_zero,List.getElem?_cons_succ,u1,u2,u3,u4,u5,u6,u7]
 refine WC.loopR (fun mm fr st'=>st'=st3∧∃ (i:Nat) (v9 v10:AV),i≤a.vals.length∧mm=a.vals.length - i∧fr=[.list false (l.map Thg.row),.bool false,.ptr 52 0,.ptr 80 0,.box [.list false [[.bool false,.str [],.list false [],.list false (dN0.map Sel.row)]],.list false []],.bool true,.box [.int .i64 0,.int .u8 D.kind,.int .i64 D.num,.str D.text,.list false (D.names.map e7),.list false [[.int .u8 a.kind,.int .i64 a.num,.str a.text,.list false (a.names.map e7),.list false (a.vals.map Val.row)],[.int .u8 b.kind,.int .i64 b.num,.str b.text,.list false (b.names.map e7),.list false (b.vals.map Val.row)]],pv],.box [.int .u8 a.kind,.int .i64 a.num,.str a.text,.list false (a.names.map e7),.list false (a.vals.map Val.row)],.int .i64 i,v9,v10]) (m:=a.vals.length) ⟨rfl,0,_,_,Nat.zero_le _,rfl,rfl⟩ ?_
 rintro mm fr st' ⟨rfl,i,v9,v10,hi,rfl,rfl⟩
 simp +contextual -implicitDefEqProofs only [K5,SS,rA,rS,rL,rE,reduceCtorEq,List.length_map,ltN]
 by_cases hil:i < a.vals.length
 rotate_left
 · simp +contextual -implicitDefEqProofs only [K5,SS,rA,rS,rL,rE,reduceCtorEq,hil]
   refine WC.leave ?_
   simp +contextual -implicitDefEqProofs only [K5,SS,rA,rS,rL,rE,reduceCtorEq,ha,hb,List.getElem?_cons_zero,List.getElem?_cons_succ,u1,u2,u3,u4,u5,u6,u7]
   exact WC.ret ⟨_,_,rfl,rfl⟩
 have e2:=a2F hil
 have hx:=hP _ (List.getElem_mem hil)
 have hfx:=hfa.vals _ (List.getElem_mem hil)
 revert e2 hx hfx
 generalize a.vals[i]=x
 intro e2 hx hfx
 obtain ⟨hx6,p,q,hpq,hp2,hq⟩:=hx
 have hfq:q.Fin:=hfx.vals q (by rw [hpq]; simp)
 have hql:q.vals.length < 2 ^ 62:=by cases hfq with|mk k n s ks ls hk hl h=>exact hl
 rw [x.row_eta,hpq,List.map_cons,List.map_cons,List.map_nil,p.row_eta,q.row_eta] at e2
 simp +contextual -implicitDefEqProofs only [K5,SS,rA,rS,rL,rE,reduceCtorEq,hil,e2,hx6,hp2,Bool.not_true,List.getElem?_cons_zero,List.getElem?_cons_succ,u1,u2,u3,u4,u5,u6,u7]
 refine WC.loopR (fun mm fr st''=>st''=st'∧∃ (j:Nat),j≤q.vals.length∧mm=q.vals.length - j∧fr=[.list false (l.map Thg.row),.bool false,.ptr 52 0,.ptr 80 0,.box [.list false [[.bool false,.str [],.list false [],.list false (dN0.map Sel.row)]],.list false []],.bool true,.box [.int .i64 0,.int .u8 D.kind,.int .i64 D.num,.str D.text,.list false (D.names.map e7),.list false [[.int .u8 a.kind,.int .i64 a.num,.str a.text,.list false (a.names.map e7),.list false (a.vals.map Val.row)],[.int .u8 b.kind,.int .i64 b.num,.str b.text,.list false (b.names.map e7),.list false (b.vals.map Val.row)]],pv],.box [.int .u8 a.kind,.int .i64 a.num,.str a.text,.list false (a.names.map e7),.list false (a.vals.map Val.row)],.int .i64 i,.box [.int .u8 x.kind,.int .i64 x.num,.str x.text,.list false (x.names.map e7),.list false [[.int .u8 p.kind,.int .i64 p.num,.str p.text,.list false (p.names.map e7),.list false (p.vals.map Val.row)],[.int .u8 q.kind,.int .i64 q.num,.str q.text,.list false (q.names.map e7),.list false (q.vals.map Val.row)]]],.int .i64 j]) (m:=q.vals.length) ⟨rfl,0,Nat.zero_le _,rfl,rfl⟩ ?_
 rintro mm fr st'' ⟨rfl,j,hj,rfl,rfl⟩
 simp +contextual -implicitDefEqProofs only [K5,SS,rA,rS,rL,rE,reduceCtorEq,List.length_map,ltN,List.getElem?_cons_zero,List.getElem?_cons_succ]
 by_cases hjl:j < q.vals.length
 rotate_left
 · simp +contextual -implicitDefEqProofs only [K5,SS,rA,rS,rL,rE,reduceCtorEq,hjl]
   refine WC.leave ?_
   simp +contextual -implicitDefEqProofs only [K5,SS,rA,rS,rL,rE,reduceCtorEq,u9 (show i+1 < 2 ^ 63 by omega)]
   exact WC.next (m':=a.vals.length - (i+1)) (by omega) ⟨rfl,i+1,_,_,hil,rfl,rfl⟩
 have e3:=a2F hjl
 have hu:=hq _ (List.getElem_mem hjl)
 revert e3 hu
 generalize q.vals[j]=u
 intro e3 hu
 obtain ⟨hu6,c,ls,hcl,hc2⟩:=hu
 rw [u.row_eta,hcl,List.map_cons,c.row_eta] at e3
 simp (maxSteps:=1000000) (contextual:=true) (implicitDefEqProofs:=false) only [K5,SS,rA,rS,rL,rE,reduceCtorEq,hjl,e3,hu6,hc2,Bool.not_true,List.getElem?_cons_zero,List.getElem?_cons_succ,u9 (show j+1 < 2 ^ 63 by omega)]
 exact WC.next (m':=q.vals.length - (j+1)) (by omega) ⟨rfl,j+1,hjl,rfl,rfl⟩
end Go.Cb.CodeA
