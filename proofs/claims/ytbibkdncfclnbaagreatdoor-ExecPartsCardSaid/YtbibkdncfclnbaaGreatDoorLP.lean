import Derived.Test.YtbibkdncfclnbaaGreatDoorLA
import Derived.Test.YtbibkdncfclnbaaGreatDoorPW
import Derived.Test.YtbibkdncfclnbaaGreatDoorRP
set_option maxRecDepth 20000
set_option linter.unusedSimpArgs false
set_option linter.unusedVariables false
namespace Go.Cb.CodeA
open Go Go.Cb
theorem b51 (n t:List Nat) (h:t∈a1n T0 n):t.length≤200:=by
 have hall:∀ u∈T0,u.n.length≤200∧∀ x∈u.ns,x.length≤200:=by
  have hb:T0.all (fun u=>Nat.ble u.n.length 200 && u.ns.all fun x=>Nat.ble x.length 200)=true:=by kernel_rfl
  intro u hu
  have:=List.all_eq_true.1 hb u hu
  rw [AA] at this
  exact ⟨Nat.le_of_ble_eq_true this.1,fun x hx=>Nat.le_of_ble_eq_true (List.all_eq_true.1 this.2 x hx)⟩
 unfold a1n a4m at h
 rw [a7A] at h
 cases hl:lkD T0 n with
 | none=>rw [hl] at h; cases h
 | some u =>
  rw [hl] at h
  have hu:=hall u (a8z hl)
  have hn:n=u.n:=by
   have:=List.find?_some hl
   exact (x9 _ _).1 this
  dsimp only [AN] at h
  split at h
  · simp at h; rw [h,hn]; exact hu.1
  split at h
  · exact hu.2 t h
  split at h
  · cases h
  · obtain ⟨w,hw,rfl⟩:=List.mem_map.1 h
    obtain ⟨x,hx,rfl⟩:=List.mem_map.1 (List.mem_filter.1 hw).1
    exact (hall x hx).1
theorem c5w {v:Val} (h:Small v):Lw v:=by
 obtain ⟨k,n,s,ls,rfl,⟨⟨_,h1⟩,h2⟩,h3,h4⟩:=h
 exact .inr ⟨_,_,_,_,rfl,h1,h2,by omega,fun u hu=>by obtain ⟨k,n,s,rfl,_,hs⟩:=h4 u hu; exact .inr ⟨_,_,_,rfl,hs⟩⟩
theorem b0Q (d:List Sel) {es:List Ent} (v:AV) (hl:es.length≤12) (hg:∀ e∈es,e.Good):(E0 d es v).Wt where
 vals:=fun e he u hu=>c5w ((hg e he).sm u hu)
 es:=Nat.le_trans hl (by decide)
 grp:=fun typ l hn=>by
  rw [a8h]
  have hr:=a1c (K:={ K0 d with typ:=typ }) rfl l []
  have hs:=hr.sizes
  have hle:=hr.size.1
  have hu:q6 ({ K0 d with typ:=typ }:Cfg).frags []=0:=rfl
  have hn2:=hn.2
  have hsm:=hr.all (P:=fun x=>x.sm=true) (fun k al nm on as ds sub h x hx=>by
   rw [Sel.sm,AA] at h
   exact (a4r sub).1 h.2 x hx) (by simp [K0]) hn.1
  refine ⟨Nat.le_trans (a4G _) (by omega),fun g hgm=>?_⟩
  obtain ⟨g1,g2,g3⟩:=b0Y hgm
  refine ⟨?_,fun x hx=>hsm x (g2 x hx),by omega⟩
  rw [a8V] at hgm
  obtain ⟨k,hk,rfl⟩:=List.mem_map.1 hgm
  obtain ⟨x,hx,rfl⟩:=a6e _ k hk
  have:=hsm x hx
  obtain ⟨kk,al,nm,on,as,ds,sub⟩:=x
  rw [Sel.sm,AA,AA] at this
  show (if eqN al [] then nm else al).length≤200
  split
  · exact Nat.le_of_ble_eq_true this.1.2
  · exact Nat.le_of_ble_eq_true this.1.1
 poss:=fun n t h=>by
  obtain ⟨x,hx,he⟩:=List.any_eq_true.1 (show ((a1n T0 n).any fun x=>eqN t x)=true from h)
  rw [(x9 _ _).1 he]
  exact b51 n x hx
 leaf:=fun n v h h0=>by
  have fin:∀ k:Int,k≠5→eqI k 8=false→eqI v.kind k=true→v.kind≠5∧eqI v.kind 8=false:=fun k h5 h8 he=>by
   rw [eqI_eq] at he
   have e:v.kind=k:=by simpa using he
   rw [e]
   exact ⟨h5,h8⟩
  unfold a0G at h
  split at h
  · exact fin 2 (by decide) rfl h
  have h:a6j T0 n v=true:=h
  unfold a6j at h
  rw [h0,if_neg (by decide)] at h
  split at h
  · split at h
    · rename_i c; exact fin 1 (by decide) rfl c
    · cases h
  split at h
  · exact fin 2 (by decide) rfl h
  split at h
  · exact fin 3 (by decide) rfl h
  split at h
  · cases h
  · split at h
    · split at h
      · rename_i c; exact fin 4 (by decide) rfl c
      · cases h
    · cases h
structure PartD (d d1 d2:List Sel) (X Y:Sel) (kx ky nx ny:List Nat) (fx fy:FDef):Prop where
 x:SelX 2001 d
 x1:SelX 2001 d1
 x2:SelX 2001 d2
 c:Nat.ble (r5 d) 5000=true
 c1:Nat.ble (r5 d1) 5000=true
 c2:Nat.ble (r5 d2) 5000=true
 g:G5 (F3 { K0 d with typ:=j5 } d)=[(kx,[X]),(ky,[Y])]
 g1:G5 (F3 { K0 d1 with typ:=j5 } d1)=[(kx,[X])]
 g2:G5 (F3 { K0 d2 with typ:=j5 } d2)=[(ky,[Y])]
 f1:W4 T0 j5 X.nm=some fx
 f2:W4 T0 j5 Y.nm=some fy
 m:(Sel.sms [X,Y] && Nat.ble (sizes [X,Y]) 2001)=true
def a5I (key:List Nat) (r:a2P):a2P:=match r with
 | ((w,ok),s2)=>if ok then ((a1h [key] [w],true),s2) else ((Val.none,false),s2)
theorem b1W {d:List Sel} {es:List Ent} {v:AV} {X:Sel} {kx:List Nat} {f:FDef} (g1:G5 (F3 { K0 d with typ:=j5 } d)=[(kx,[X])]) (hf:W4 T0 j5 X.nm=some f):T7 (E0 d es v) d=a5I kx (m8 (E0 d es v) (valF (E0 d es v) 5002) j5 Ent.none f [X] [kx] ⟨[],false,1⟩):=by
 unfold T7
 rw [a8h,g1,u9,show (E0 d es v).fld j5 (R3 [X])=some f from hf]
 dsimp only
 rw [show (RS.step ⟨[],false,0⟩)=⟨[],false,1⟩ from rfl,if_pos (by decide)]
 rfl
theorem b9h {d:List Sel} {es:List Ent} {v:AV} {X Y:Sel} {kx ky:List Nat} {fx fy:FDef} (g:G5 (F3 { K0 d with typ:=j5 } d)=[(kx,[X]),(ky,[Y])]) (h1:W4 T0 j5 X.nm=some fx) (h2:W4 T0 j5 Y.nm=some fy):T7 (E0 d es v) d =
 (match m8 (E0 d es v) (valF (E0 d es v) 5002) j5 Ent.none fx [X] [kx] ⟨[],false,1⟩ with
  | ((w,ok),s2)=>if ok then (if s2.step.steps≤5000 then (match m8 (E0 d es v) (valF (E0 d es v) 5002) j5 Ent.none fy [Y] [ky] s2.step with
   | ((w2,ok2),s3)=>if ok2 then ((a1h [kx,ky] [w,w2],true),s3) else ((Val.none,false),s3)) else ((Val.none,false),s2.step)) else ((Val.none,false),s2)):=by
 unfold T7
 rw [a8h,g,u9,show (E0 d es v).fld j5 (R3 [X])=some fx from h1]
 dsimp only
 rw [show (RS.step ⟨[],false,0⟩)=⟨[],false,1⟩ from rfl,if_pos (by decide)]
 show (match m8 (E0 d es v) (valF (E0 d es v) 5002) j5 Ent.none fx [X] [kx] ⟨[],false,1⟩ with
  | ((w,ok),s2)=>if ok then u9 (E0 d es v) (valF (E0 d es v) 5002) j5 Ent.none [] [(ky,[Y])] ([]++[kx]) ([]++[w]) s2 else ((Val.none,false),s2))=_
 generalize m8 (E0 d es v) (valF (E0 d es v) 5002) j5 Ent.none fx [X] [kx] ⟨[],false,1⟩=r
 obtain ⟨⟨w,ok⟩,s2⟩:=r
 dsimp only
 cases ok with
 | false=>rfl
 | true =>
  rw [if_pos rfl,if_pos rfl,u9,show (E0 d es v).fld j5 (R3 [Y])=some fy from h2]
  rfl
theorem b5V {d d1 d2:List Sel} {X Y:Sel} {kx ky nx ny:List Nat} {fx fy:FDef} (h:PartD d d1 d2 X Y kx ky nx ny fx fy) {es:List Ent} {v:AV} (hl:es.length≤12) (hg:∀ e∈es,e.Good) :
 ∃ (D D1 D2:Val) (ps ps1 ps2:List (Pth×Int)),a2E (E0 d es v) d=(0,D,ps)∧a2E (E0 d1 es v) d1=(0,D1,ps1)∧a2E (E0 d2 es v) d2=(0,D2,ps2) ∧
  ((D=Val.none∧(D1=Val.none∧(D2=Val.none∨∃ w,D2=a1h [ky] [w])∨(∃ w,D1=a1h [kx] [w])∧D2=Val.none)) ∨
   ∃ w1 w2:Val,D1=a1h [kx] [w1]∧D2=a1h [ky] [w2]∧D=a1h [kx,ky] [w1,w2]∧ps.length=ps1.length+ps2.length∧(w1.OK∧w1.w≤2 ^ 61)∧w2.OK∧w2.w≤2 ^ 61):=by
 obtain ⟨hst,hpt⟩:=a1z (v:=v) hl hg h.c
 obtain ⟨hst1,hpt1⟩:=a1z (v:=v) hl hg h.c1
 obtain ⟨hst2,hpt2⟩:=a1z (v:=v) hl hg h.c2
 refine ⟨_,_,_,_,_,_,a8P hl hg h.c,a8P hl hg h.c1,a8P hl hg h.c2,?_⟩
 have hm:=h.m
 rw [AA,a4r] at hm
 have hsz:=Nat.le_of_ble_eq_true hm.2
 rw [m0,a1w] at hsz
 have nX:Nm [X]:=⟨fun x hx=>hm.1 x (by simp at hx; simp [hx]),by rw [a1w]; omega⟩
 have nY:Nm [Y]:=⟨fun x hx=>hm.1 x (by simp at hx; simp [hx]),by rw [a1w]; omega⟩
 have w1:=a8y (b0Q d1 v hl hg) (U1 (D7 _) 5002) (b6k (b0Q d1 v hl hg) 5002) (typ:=j5) (by decide) (x:=Ent.none) (by simp [Ent.none]) fx nX [kx] ⟨[],false,1⟩
 have w2:=a8y (b0Q d2 v hl hg) (U1 (D7 _) 5002) (b6k (b0Q d2 v hl hg) 5002) (typ:=j5) (by decide) (x:=Ent.none) (by simp [Ent.none]) fy nY [ky] ⟨[],false,1⟩
 have hS1:=b8K d1 d es v
 have hS2:=b8K d2 d es v
 have hM:=U1 (D7 (E0 d es v)) 5002
 have hV1:a0i 0 [] [] [kx] [kx] (valF (E0 d1 es v) 5002) (valF (E0 d es v) 5002):=a8t hS1 5002
 have r1:=a3M hS1 hM hV1 j5 Ent.none fx (fs:=[X]) (fs':=[X]) rfl rfl [] (s:=⟨[],false,1⟩) (s':=⟨[],false,1⟩) ⟨⟨[],rfl,rfl⟩,rfl,rfl⟩ (.inl rfl)
 rw [show [kx]++[]=[kx] from rfl] at r1
 have hV2:∀ (D:Nat) (B:List (Pth×Int)),a0i D [] B [ky] [ky] (valF (E0 d2 es v) 5002) (valF (E0 d es v) 5002):=fun D B=>a8t hS2 5002
 have r2:=fun (D:Nat) (B:List (Pth×Int)) (s':RS) (hs:RelS D [] B [ky] [ky] ⟨[],false,1⟩ s')=>a3M hS2 hM (hV2 D B) j5 Ent.none fy (fs:=[Y]) (fs':=[Y]) rfl rfl [] (s:=⟨[],false,1⟩) (s':=s') hs
 rw [show [ky]++[]=[ky] from rfl] at r2
 have e0:=b9h (d:=d) (es:=es) (v:=v) h.g h.f1 h.f2
 have e1:=b1W (d:=d1) (es:=es) (v:=v) h.g1 h.f1
 have e2:=b1W (d:=d2) (es:=es) (v:=v) h.g2 h.f2
 rw [e0] at hst hpt ⊢
 rw [e1] at hst1 hpt1 ⊢
 rw [e2] at hst2 hpt2 ⊢
 revert r1 w1 hst hpt hst1 hpt1
 generalize m8 (E0 d1 es v) (valF (E0 d1 es v) 5002) j5 Ent.none fx [X] [kx] ⟨[],false,1⟩=q1
 generalize m8 (E0 d es v) (valF (E0 d es v) 5002) j5 Ent.none fx [X] [kx] ⟨[],false,1⟩=q
 obtain ⟨⟨a1,ok1⟩,s1⟩:=q1
 obtain ⟨⟨a,ok⟩,s⟩:=q
 intro hst hpt hst1 hpt1 w1 r1
 have hs1:s1.steps≤5000∧s1.part=false:=by
  cases ok1 with
  | true=>rw [a5I,if_pos rfl] at hst1 hpt1; exact ⟨hst1,hpt1⟩
  | false=>rw [a5I,if_neg (by decide)] at hst1 hpt1; exact ⟨hst1,hpt1⟩
 obtain ⟨r1a,r1b⟩:=r1
 dsimp only at r1a r1b w1 hst hpt hst1 hpt1 ⊢
 injection r1a with ea eo
 subst ea eo
 obtain ⟨⟨l1,p1a,p1b⟩,hpp,hss⟩:=r1b
 rw [List.nil_append] at p1a p1b
 have hss:s.steps=s1.steps:=hss
 have hw1:a1.OK∧a1.w≤2 ^ 61:=⟨w1.1,by
  have:=w1.2
  have:=hs1.1
  unfold WC0 WM at *
  omega⟩
 have hq2:∀ w2 ok2 s2,m8 (E0 d2 es v) (valF (E0 d2 es v) 5002) j5 Ent.none fy [Y] [ky] ⟨[],false,1⟩=((w2,ok2),s2)→s2.steps≤5000∧w2.OK∧w2.w≤2 ^ 61:=by
  intro a2 ok2 s2 e
  rw [e] at w2 hst2
  have h5:s2.steps≤5000:=by
   cases ok2 with
   | true=>rw [a5I,if_pos rfl] at hst2; exact hst2
   | false=>rw [a5I,if_neg (by decide)] at hst2; exact hst2
  refine ⟨h5,w2.1,?_⟩
  have:=w2.2
  dsimp only at this
  unfold WC0 WM at *
  omega
 have hdec:∀ q2:a2P,(q2.1.2=false∧(a5I ky q2).1.1=Val.none)∨(q2.1.2=true∧(a5I ky q2).1.1=a1h [ky] [q2.1.1]):=by
  rintro ⟨⟨a2,ok2⟩,s2⟩
  cases ok2 with
  | true=>exact .inr ⟨rfl,rfl⟩
  | false=>exact .inl ⟨rfl,rfl⟩
 cases ok1 with
 | false =>
  refine .inl ⟨rfl,.inl ⟨rfl,?_⟩⟩
  rcases hdec (m8 (E0 d2 es v) (valF (E0 d2 es v) 5002) j5 Ent.none fy [Y] [ky] ⟨[],false,1⟩) with ⟨_,e⟩|⟨_,e⟩
  · exact .inl e
  · exact .inr ⟨_,e⟩
 | true =>
  rw [if_pos rfl] at hst hpt ⊢
  have hstep:s.step.steps=1+s.steps:=by
   show (if s.steps≤5000 then s.steps+1 else s.steps)=_
   rw [if_pos (by omega)]; omega
  by_cases c:s.step.steps≤5000
  · rw [if_pos c] at hst hpt ⊢
    have rr:=r2 s.steps s.ps s.step ⟨⟨[],rfl,by show s.ps=_; simp⟩,by show s.part=false; rw [hpp]; exact hs1.2,hstep⟩
    revert rr hq2 hst hpt hst2 hpt2
    generalize m8 (E0 d2 es v) (valF (E0 d2 es v) 5002) j5 Ent.none fy [Y] [ky] ⟨[],false,1⟩=q2
    generalize m8 (E0 d es v) (valF (E0 d es v) 5002) j5 Ent.none fy [Y] [ky] s.step=q3
    obtain ⟨⟨a2,ok2⟩,s2⟩:=q2
    obtain ⟨⟨a3,ok3⟩,s3⟩:=q3
    intro hst2 hpt2 hq2 hst hpt rr
    dsimp only at hst hpt rr ⊢
    have h3:s3.steps≤5000:=by
     cases ok3 with
     | true=>rw [if_pos rfl] at hst; exact hst
     | false=>rw [if_neg (by decide)] at hst; exact hst
    obtain ⟨ra,rb⟩:=rr (.inr h3)
    injection ra with ea eo
    subst ea eo
    obtain ⟨⟨l2,p2a,p2b⟩,_,_⟩:=rb
    rw [List.nil_append] at p2a
    have hlen:s3.ps.length=s1.ps.length+s2.ps.length:=by
     show s3.ps.length=_
     have p2b:s3.ps=s.ps++l2.map (a8T [ky]):=p2b
     have p2a:s2.ps=l2.map (a8T [ky]):=p2a
     have p1a:s1.ps=l1.map (a8T [kx]):=p1a
     have p1b:s.ps=l1.map (a8T [kx]):=p1b
     rw [p2b,p2a,p1a,p1b]
     simp
    cases ok2 with
    | true=>exact .inr ⟨a1,a2,rfl,rfl,rfl,hlen,hw1,(hq2 _ _ _ rfl).2⟩
    | false=>exact .inl ⟨rfl,.inr ⟨⟨a1,rfl⟩,rfl⟩⟩
  · rw [if_neg c] at hst
    exact absurd hst (by show ¬ s.step.steps≤5000; exact c)
end Go.Cb.CodeA
