import Derived.Test.YtbibkdncfclnbaaGreatDoorXs1
import Derived.Test.YtbibkdncfclnbaaGreatDoorC6
set_option maxRecDepth 20000
set_option linter.unusedSimpArgs false
set_option linter.unusedVariables false
namespace Go.Cb.CodeA
open Go Go.Cb
structure Steady (E:REnv) (R:RS→RS→Prop):Prop where
 refl:∀ s,R s s
 trans:∀ {a b c},R a b→R b c→R a c
 step:∀ s,R s s.step
 prob:∀ s p e,R s (s.prob p e)
 know:∀ s n,R s (E.know s n)
def Inv (R:RS→RS→Prop) (V:VF):Prop:=∀ t v fs path s,R s (V t v fs path s).2
section
variable {E:REnv} {R:RS→RS→Prop}
theorem a24 (hR:Steady E R) {V:VF} (hV:Inv R V) (t:TRef) (v:Val) (fs:List Sel) (path:List (List Nat)) (s:RS):R s (y9 V t v fs path s).2:=by
 have h:=hV t v fs path s
 unfold y9
 revert h
 generalize V t v fs path s=r
 obtain ⟨out,s2⟩:=r
 intro h
 dsimp only at h ⊢
 split
 · dsimp only
   split
   · exact hR.trans h (hR.prob _ _ _)
   · exact h
 · exact h
theorem a1D (hR:Steady E R) {V:VF} (hV:Inv R V) (t:TRef) (fs:List Sel) (path:List (List Nat)):∀ (l:List Val) (i:Nat) (acc:List Val) (s:RS),R s (B0 V t fs path l i acc s).2
 | [],i,acc,s=>hR.refl s
 | x::xs,i,acc,s=>by
  unfold B0
  have h0:=hR.step s
  split
  · have h1:=a24 hR hV t x fs (path++[H1 (i:Int)]) s.step
    revert h1
    generalize y9 V t x fs (path++[H1 (i:Int)]) s.step=r
    obtain ⟨⟨y,ok⟩,s2⟩:=r
    intro h1
    dsimp only at h1 ⊢
    split
    · exact hR.trans (hR.trans h0 h1) (a1D hR hV t fs path xs (i+1) _ s2)
    · exact hR.trans h0 h1
  · exact h0
theorem b8c (hR:Steady E R) {V:VF} (hV:Inv R V) (typ:List Nat) (x:Ent) (f:FDef) (fs:List Sel) (path:List (List Nat)) (s:RS):R s (m8 E V typ x f fs path s).2:=by
 unfold m8
 split
 · exact hR.refl s
 split
 · exact a24 hR hV _ _ _ _ _
 split
 · exact hR.trans (hR.know s _) (a24 hR hV _ _ _ _ _)
 · generalize E.args f (U4 fs)=r
   obtain ⟨a,e⟩:=r
   dsimp only
   split
   · exact hR.trans (hR.know s _) (a24 hR hV _ _ _ _ _)
   · exact hR.trans (hR.know s _) (hR.prob _ _ _)
theorem a0R (hR:Steady E R) {V:VF} (hV:Inv R V) (typ:List Nat) (x:Ent) (path:List (List Nat)):∀ (gs:List (List Nat×List Sel)) (ks:List (List Nat)) (ls:List Val) (s:RS),R s (u9 E V typ x path gs ks ls s).2
 | [],ks,ls,s=>hR.refl s
 | (key,fs)::gs,ks,ls,s=>by
  unfold u9
  cases hf:E.fld typ (R3 fs) with
  | none=>exact a0R hR hV typ x path gs ks ls s
  | some f =>
   dsimp only
   have h0:=hR.step s
   split
   · have h1:=b8c hR hV typ x f fs (path++[key]) s.step
     revert h1
     generalize m8 E V typ x f fs (path++[key]) s.step=r
     obtain ⟨⟨y,ok⟩,s2⟩:=r
     intro h1
     dsimp only at h1 ⊢
     split
     · exact hR.trans (hR.trans h0 h1) (a0R hR hV typ x path gs _ _ s2)
     · exact hR.trans h0 h1
   · exact h0
theorem U1 (hR:Steady E R):∀ n,Inv R (valF E n)
 | 0=>fun t v fs path s=>hR.refl s
 | n+1=>fun t v fs path s=>by
  rw [valF.eq_def]
  dsimp only
  split
  · exact hR.refl s
  cases t with
  | wrap u b =>
   dsimp only
   split
   · exact a1D hR (U1 hR n) u fs path _ _ _ s
   · exact hR.prob _ _ _
  | base nm b =>
   dsimp only
   split
   · split
     · exact hR.refl s
     · exact hR.prob _ _ _
   split
   · cases hg:a0x E.es v.text with
     | none=>exact hR.know s nm
     | some x =>
      dsimp only
      split
      · have h1:=hR.trans (hR.know s nm) (a0R hR (U1 hR n) x.t x path (E.grp x.t (m2 fs)) [] [] (E.know s nm))
        revert h1
        generalize u9 E (valF E n) x.t x path (E.grp x.t (m2 fs)) [] [] (E.know s nm)=r
        obtain ⟨⟨y,ok⟩,s2⟩:=r
        exact id
      · exact hR.know s nm
   · exact hR.prob _ _ _
end
theorem B3 (E:REnv) (s:RS) (n:List Nat):(E.know s n).steps=s.steps:=by unfold REnv.know; split <;> rfl
theorem c5K (s:RS):s.steps≤s.step.steps:=by unfold RS.step; dsimp only; split <;> omega
def Z9 (s s2:RS):Prop:=s.steps≤s2.steps
theorem D7 (E:REnv):Steady E Z9:=⟨fun _=>AJ _,Nat.le_trans,c5K,fun _ _ _=>AJ _,fun s n=>Nat.le_of_eq (B3 E s n).symm⟩
def c72 (s s2:RS):Prop:=s2.part=s.part
theorem a5p {E:REnv} (h:∀ n,E.knows n=true):Steady E c72:=⟨fun _=>rfl,fun h1 h2=>h2.trans h1,fun _=>rfl,fun _ _ _=>rfl,fun s n=>by unfold REnv.know; rw [if_pos (h n)]; rfl⟩
theorem R8 (V:VF) (t:TRef) (v:Val) (fs:List Sel) (path:List (List Nat)) (s:RS):(y9 V t v fs path s).2.steps=(V t v fs path s).2.steps:=by
 unfold y9
 generalize V t v fs path s=r
 obtain ⟨out,s2⟩:=r
 dsimp only
 split
 · dsimp only
   split <;> rfl
 · rfl
structure REnv.Sim (E E':REnv):Prop where
 es:E'.es=E.es
 fld:E'.fld=E.fld
 grp:E'.grp=E.grp
 poss:E'.poss=E.poss
 leaf:E'.leaf=E.leaf
 fits:E'.fits=E.fits
 knows:E'.knows=E.knows
 args:E'.args=E.args
theorem REnv.Sim.refl (E:REnv):E.Sim E:=⟨rfl,rfl,rfl,rfl,rfl,rfl,rfl,rfl⟩
abbrev Pth:=List (List Nat)
def a8T (p:Pth) (x:Pth×Int):Pth×Int:=(p++x.1,x.2)
section
variable (d:Nat) (A B:List (Pth×Int)) (p q:Pth)
structure RelS (s s':RS):Prop where
 ps:∃ l:List (Pth×Int),s.ps=A++l.map (a8T p)∧s'.ps=B++l.map (a8T q)
 part:s'.part=s.part
 steps:s'.steps=s.steps+d
def Room (s:RS):Prop:=d=0∨s.steps≤5000
def a0i (V V':VF):Prop:=∀ t v fs fs' r s s',m2 fs=m2 fs'→RelS d A B p q s s'→Room d (V' t v fs' (q++r) s').2→(V t v fs (p++r) s).1=(V' t v fs' (q++r) s').1∧RelS d A B p q (V t v fs (p++r) s).2 (V' t v fs' (q++r) s').2
end
section
variable {d:Nat} {A B:List (Pth×Int)} {p q:Pth}
theorem Room.le {s s2:RS} (h:Room d s2) (hl:s.steps≤s2.steps):Room d s:=h.imp id fun h=>Nat.le_trans hl h
theorem RelS.prob {s s':RS} (h:RelS d A B p q s s') (r:Pth) (e:Int):RelS d A B p q (s.prob (p++r) e) (s'.prob (q++r) e):=by
 obtain ⟨l,h1,h2⟩:=h.ps
 refine ⟨⟨l++[(r,e)],?_,?_⟩,h.part,h.steps⟩
 · show s.ps++_=_
   rw [h1,AU,AW]; rfl
 · show s'.ps++_=_
   rw [h2,AU,AW]; rfl
theorem RelS.step {s s':RS} (h:RelS d A B p q s s') (hr:Room d s'.step):RelS d A B p q s.step s'.step∧(s.step.steps≤5000 ↔ s'.step.steps≤5000):=by
 have hs:=h.steps
 have e1:s.step.steps=if s.steps≤5000 then s.steps+1 else s.steps:=rfl
 have e2:s'.step.steps=if s'.steps≤5000 then s'.steps+1 else s'.steps:=rfl
 have hd:s'.step.steps=s.step.steps+d:=by
  rcases hr with rfl|hr
  · rw [e1,e2,hs]; simp only [Nat.add_zero]
  · rw [e2] at hr
    rw [e1,e2,hs]
    rw [hs] at hr
    by_cases c:s.steps+d≤5000
    · rw [if_pos c,if_pos (by omega)]; omega
    · rw [if_neg c] at hr; omega
 refine ⟨⟨h.ps,h.part,hd⟩,?_⟩
 rcases hr with rfl|hr
 · rw [hd,Nat.add_zero]
 · exact ⟨fun _=>hr,fun _=>by omega⟩
theorem a2X {V V':VF} (hV:a0i d A B p q V V') (t:TRef) (v:Val) {fs fs':List Sel} (hf:m2 fs=m2 fs') (r:Pth) {s s':RS} (h:RelS d A B p q s s') (hr:Room d (y9 V' t v fs' (q++r) s').2) :
 (y9 V t v fs (p++r) s).1=(y9 V' t v fs' (q++r) s').1∧RelS d A B p q (y9 V t v fs (p++r) s).2 (y9 V' t v fs' (q++r) s').2:=by
 have hr2:Room d (V' t v fs' (q++r) s').2:=hr.imp id fun h=>by rw [R8] at h; exact h
 obtain ⟨e1,e2⟩:=hV t v fs fs' r s s' hf h hr2
 unfold y9
 revert e1 e2
 generalize V t v fs (p++r) s=x
 generalize V' t v fs' (q++r) s'=x'
 obtain ⟨out,s2⟩:=x
 obtain ⟨out',s2'⟩:=x'
 intro e1 e2
 dsimp only at e1 e2 ⊢
 subst e1
 obtain ⟨l,a1,a2⟩:=h.ps
 obtain ⟨l2,b1,b2⟩:=e2.ps
 have hl:(s2.ps.length=s.ps.length) ↔ (s2'.ps.length=s'.ps.length):=by
  rw [a1,a2,b1,b2]
  simp only [AE,AF]
  omega
 split
 · refine ⟨rfl,?_⟩
   dsimp only
   by_cases c:s2.ps.length=s.ps.length
   · rw [if_pos c,if_pos (hl.1 c)]; exact e2.prob r 9
   · rw [if_neg c,if_neg (fun h=>c (hl.2 h))]; exact e2
 · exact ⟨rfl,e2⟩
theorem a8Z {E':REnv} {V V':VF} (hM:Inv Z9 V') (hV:a0i d A B p q V V') (t:TRef) {fs fs':List Sel} (hf:m2 fs=m2 fs') (r:Pth):∀ (l:List Val) (i:Nat) (acc:List Val) {s s':RS},RelS d A B p q s s'→Room d (B0 V' t fs' (q++r) l i acc s').2 →
 (B0 V t fs (p++r) l i acc s).1=(B0 V' t fs' (q++r) l i acc s').1∧RelS d A B p q (B0 V t fs (p++r) l i acc s).2 (B0 V' t fs' (q++r) l i acc s').2
 | [],i,acc,s,s',h,hr=>⟨rfl,h⟩
 | x::xs,i,acc,s,s',h,hr=>by
  unfold B0 at hr ⊢
  by_cases c':s'.step.steps≤5000
  · rw [if_pos c'] at hr
    have hro:Room d s'.step:=.inr c'
    obtain ⟨h1,h2⟩:=h.step hro
    rw [if_pos c',if_pos (h2.2 c')]
    have hc:=a2X hV t x hf (r++[H1 (i:Int)]) h1
    rw [← AW,← AW] at hc
    revert hc hr
    generalize y9 V t x fs (p++r++[H1 (i:Int)]) s.step=y
    generalize y9 V' t x fs' (q++r++[H1 (i:Int)]) s'.step=y'
    obtain ⟨⟨y,ok⟩,s2⟩:=y
    obtain ⟨⟨y',ok'⟩,s2'⟩:=y'
    intro hr hc
    dsimp only at hr hc ⊢
    have hr2:Room d s2':=by
     cases ok' with
     | true=>exact hr.le (a1D (D7 E') hM t fs' (q++r) xs (i+1) (acc++[y']) s2')
     | false=>exact hr
    obtain ⟨e1,e2⟩:=hc hr2
    cases e1
    cases ok with
    | true=>exact a8Z (E':=E') hM hV t hf r xs (i+1) (acc++[y]) e2 hr
    | false=>exact ⟨rfl,e2⟩
  · rw [if_neg c'] at hr ⊢
    obtain ⟨h1,h2⟩:=h.step hr
    rw [if_neg (fun c=>c' (h2.1 c))]
    exact ⟨rfl,h1⟩
theorem RelS.know {E E':REnv} (hE:E.Sim E') {s s':RS} (h:RelS d A B p q s s') (n:List Nat):RelS d A B p q (E.know s n) (E'.know s' n):=by
 unfold REnv.know
 rw [hE.knows]
 split
 · exact h
 · exact ⟨h.ps,rfl,h.steps⟩
theorem a3M {E E':REnv} (hE:E.Sim E') {V V':VF} (hM:Inv Z9 V') (hV:a0i d A B p q V V') (typ:List Nat) (x:Ent) (f:FDef) {fs fs':List Sel} (hf:m2 fs=m2 fs') (ha:U4 fs=U4 fs') (r:Pth) {s s':RS} (h:RelS d A B p q s s') (hr:Room d (m8 E' V' typ x f fs' (q++r) s').2) :
 (m8 E V typ x f fs (p++r) s).1=(m8 E' V' typ x f fs' (q++r) s').1∧RelS d A B p q (m8 E V typ x f fs (p++r) s).2 (m8 E' V' typ x f fs' (q++r) s').2:=by
 unfold m8 at hr ⊢
 rw [hE.es,hE.poss,hE.args,← ha] at *
 split at hr
 · rename_i c; rw [if_pos c,if_pos c]; exact ⟨rfl,h⟩
 rename_i c
 rw [if_neg c,if_neg c]
 split at hr
 · rename_i c; rw [if_pos c,if_pos c]; exact a2X hV f.t _ hf r h hr
 rename_i c
 rw [if_neg c,if_neg c]
 split at hr
 · rename_i c; rw [if_pos c,if_pos c]; exact a2X hV f.t _ hf r (h.know hE _) hr
 rename_i c
 rw [if_neg c,if_neg c]
 revert hr
 generalize E.args f (U4 fs)=y
 obtain ⟨a,e⟩:=y
 intro hr
 dsimp only at hr ⊢
 split at hr
 · rename_i c; rw [if_pos c,if_pos c]; exact a2X hV f.t _ hf r (h.know hE _) hr
 · rename_i c; rw [if_neg c,if_neg c]; exact ⟨rfl,(h.know hE _).prob r e⟩
theorem a8C {E E':REnv} (hE:E.Sim E') {V V':VF} (hM:Inv Z9 V') (hV:a0i d A B p q V V') (typ:List Nat) (x:Ent) (r:Pth):∀ (gs:List (List Nat×List Sel)) (ks:List (List Nat)) (ls:List Val) {s s':RS},RelS d A B p q s s'→Room d (u9 E' V' typ x (q++r) gs ks ls s').2 →
 (u9 E V typ x (p++r) gs ks ls s).1=(u9 E' V' typ x (q++r) gs ks ls s').1∧RelS d A B p q (u9 E V typ x (p++r) gs ks ls s).2 (u9 E' V' typ x (q++r) gs ks ls s').2
 | [],ks,ls,s,s',h,hr=>⟨rfl,h⟩
 | (key,fs)::gs,ks,ls,s,s',h,hr=>by
  unfold u9 at hr ⊢
  rw [hE.fld] at hr ⊢
  cases hf:E.fld typ (R3 fs) with
  | none =>
   rw [hf] at hr
   exact a8C hE hM hV typ x r gs ks ls h hr
  | some f =>
   rw [hf] at hr
   dsimp only at hr ⊢
   by_cases c':s'.step.steps≤5000
   · rw [if_pos c'] at hr
     have hro:Room d s'.step:=.inr c'
     obtain ⟨h1,h2⟩:=h.step hro
     rw [if_pos c',if_pos (h2.2 c')]
     have hc:=a3M hE hM hV typ x f (fs:=fs) rfl rfl (r++[key]) h1
     rw [← AW,← AW] at hc
     revert hc hr
     generalize m8 E V typ x f fs (p++r++[key]) s.step=y
     generalize m8 E' V' typ x f fs (q++r++[key]) s'.step=y'
     obtain ⟨⟨y,ok⟩,s2⟩:=y
     obtain ⟨⟨y',ok'⟩,s2'⟩:=y'
     intro hr hc
     dsimp only at hr hc ⊢
     have hr2:Room d s2':=by
      cases ok' with
      | true=>exact hr.le (a0R (D7 E') hM typ x (q++r) gs (ks++[key]) (ls++[y']) s2')
      | false=>exact hr
     obtain ⟨e1,e2⟩:=hc hr2
     cases e1
     cases ok with
     | true=>exact a8C hE hM hV typ x r gs (ks++[key]) (ls++[y]) e2 hr
     | false=>exact ⟨rfl,e2⟩
   · rw [if_neg c'] at hr ⊢
     obtain ⟨h1,h2⟩:=h.step hr
     rw [if_neg (fun c=>c' (h2.1 c))]
     exact ⟨rfl,h1⟩
theorem a8t {E E':REnv} (hE:E.Sim E'):∀ n,a0i d A B p q (valF E n) (valF E' n)
 | 0=>fun t v fs fs' r s s' hf h hr=>⟨rfl,h⟩
 | n+1=>fun t v fs fs' r s s' hf h hr=>by
  have ih:a0i d A B p q (valF E n) (valF E' n):=a8t hE n
  have hM:=U1 (D7 E') n
  rw [valF.eq_def] at hr ⊢
  rw [valF.eq_def (E:=E')]
  dsimp only at hr ⊢
  split at hr
  · rename_i c; rw [if_pos c,if_pos c]; exact ⟨rfl,h⟩
  rename_i c
  rw [if_neg c,if_neg c]
  cases t with
  | wrap u b =>
   dsimp only at hr ⊢
   split at hr
   · rename_i c; rw [if_pos c,if_pos c]; exact a8Z (E':=E') hM ih u hf r _ _ _ h hr
   · rename_i c; rw [if_neg c,if_neg c]; exact ⟨rfl,h.prob r 8⟩
  | base nm b =>
   dsimp only at hr ⊢
   rw [hE.leaf] at *
   split at hr
   · rename_i c
     rw [if_pos c,if_pos c]
     have el:a0G E' nm v=a0G E nm v:=by unfold a0G; rw [hE.fits]
     rw [el] at *
     split
     · exact ⟨rfl,h⟩
     · exact ⟨rfl,h.prob r 8⟩
   rename_i c
   rw [if_neg c,if_neg c]
   split at hr
   · rename_i c
     rw [if_pos c,if_pos c]
     rw [hE.es,hE.poss,hE.grp,← hf] at *
     cases hg:a0x E.es v.text with
     | none=>exact ⟨rfl,h.know hE nm⟩
     | some x =>
      rw [hg] at hr
      dsimp only at hr ⊢
      split at hr
      · rename_i c
        rw [if_pos c,if_pos c]
        have ho:=a8C hE hM ih x.t x r (E.grp x.t (m2 fs)) [] [] (h.know hE nm)
        revert hr ho
        generalize u9 E (valF E n) x.t x (p++r) (E.grp x.t (m2 fs)) [] [] (E.know s nm)=y
        generalize u9 E' (valF E' n) x.t x (q++r) (E.grp x.t (m2 fs)) [] [] (E'.know s' nm)=y'
        obtain ⟨⟨y,ok⟩,s2⟩:=y
        obtain ⟨⟨y',ok'⟩,s2'⟩:=y'
        intro hr ho
        dsimp only at hr ho ⊢
        obtain ⟨e1,e2⟩:=ho hr
        cases e1
        exact ⟨rfl,e2⟩
      · rename_i c
        rw [if_neg c,if_neg c]
        exact ⟨rfl,h.know hE nm⟩
   · rename_i c
     rw [if_neg c,if_neg c]
     exact ⟨rfl,h.prob r 8⟩
end
end Go.Cb.CodeA
set_option maxRecDepth 20000
set_option linter.unusedSimpArgs false
set_option linter.unusedVariables false
namespace Go.Cb.CodeA
open Go Go.Cb
mutual
def Sel.cost:Sel→Nat
 | .mk k _ _ _ _ _ sub=>if eqI k 1 then 13+12*r5 sub else r5 sub
def r5:List Sel→Nat
 | []=>0
 | x::xs=>x.cost+r5 xs
end
theorem H9 (x:Sel) (l:List Sel):r5 (x::l)=x.cost+r5 l:=by rw [r5]
theorem a8I (k:Int) (al nm on:List Nat) (as:List Arg) (ds:List Dir) (sub:List Sel):(Sel.mk k al nm on as ds sub).cost=if eqI k 1 then 13+12*r5 sub else r5 sub:=by rw [Sel.cost]
theorem a1s:∀ a b:List Sel,r5 (a++b)=r5 a+r5 b
 | [],b=>by simp [r5]
 | x::a,b=>by rw [List.cons_append,H9,H9,a1s a b]; omega
def P8:List (List Nat×List Sel)→Nat
 | []=>0
 | g::gs=>13+12*r5 (m2 g.2)+P8 gs
def Few (v:Val):Prop:=v.vals.length≤12∧∀ u∈v.vals,u.vals=[]
theorem Few.flat {v:Val} (h:v.vals=[]):Few v:=⟨by rw [h]; simp,by rw [h]; simp⟩
structure REnv.Little (E:REnv):Prop where
 es:E.es.length≤12
 vals:∀ e∈E.es,∀ v∈e.ls,Few v
 grp:∀ typ l,P8 (E.grp typ l)≤r5 l
def b0L (V:VF):Prop:=∀ t v fs path s,(v.vals=[]→(V t v fs path s).2.steps≤s.steps+r5 (m2 fs))∧(Few v→(V t v fs path s).2.steps≤s.steps+12*(1+r5 (m2 fs)))
theorem b1y (s:RS):s.step.steps≤s.steps+1:=by unfold RS.step; dsimp only; split <;> omega
section
variable {E:REnv} {V:VF}
theorem a2L (hV:b0L V) (t:TRef) (fs:List Sel) (path:Pth):∀ (l:List Val) (i:Nat) (acc:List Val) (s:RS),(∀ u∈l,u.vals=[])→(B0 V t fs path l i acc s).2.steps≤s.steps+l.length*(1+r5 (m2 fs))
 | [],i,acc,s,_=>by simp [B0]
 | x::xs,i,acc,s,h=>by
  have h0:=b1y s
  have h1:=(hV t x fs (path++[H1 (i:Int)]) s.step).1 (h x (by simp))
  rw [← R8] at h1
  unfold B0
  rw [AX,Nat.succ_mul]
  split
  · revert h1
    generalize y9 V t x fs (path++[H1 (i:Int)]) s.step=r
    obtain ⟨⟨y,ok⟩,s2⟩:=r
    intro h1
    dsimp only at h1 ⊢
    split
    · have:=a2L hV t fs path xs (i+1) (acc++[y]) s2 (fun u hu=>h u (by simp [hu]))
      omega
    · dsimp only; omega
  · dsimp only; omega
theorem c5y {x:Ent} (hx:∀ v∈x.ls,Few v) (n:List Nat):Few (atK 6 x.ks x.ls n):=by
 unfold atK
 rw [if_pos (show eqI 6 6=true from rfl)]
 cases pI (fun y=>eqN n y) x.ks with
 | none=>exact Few.flat rfl
 | some i =>
  dsimp only
  cases hi:x.ls[i]? with
  | none=>exact Few.flat rfl
  | some v=>exact hx v (List.mem_of_getElem? hi)
theorem b6p (hE:E.Little) (hV:b0L V) (typ:List Nat) (x:Ent) (hx:∀ v∈x.ls,Few v) (f:FDef) (fs:List Sel) (path:Pth) (s:RS):(m8 E V typ x f fs path s).2.steps≤s.steps+12*(1+r5 (m2 fs)):=by
 unfold m8
 split
 · dsimp only; omega
 split
 · rw [R8]; exact (hV _ _ _ _ _).2 (c5y hx _)
 split
 · rw [R8]
   have h:=(hV f.t (.mk 5 0 [] [] ((E.es.filter fun y=>l6 (E.poss f.t.bs) y.t).map fun y=>J3 y.id)) fs path (E.know s f.t.bs)).2 ⟨?_,?_⟩
   · rw [B3] at h; exact h
   · show ((E.es.filter fun y=>l6 (E.poss f.t.bs) y.t).map fun y=>J3 y.id).length≤12
     rw [AF]
     exact Nat.le_trans (List.length_filter_le _ _) hE.es
   · intro u hu
     obtain ⟨y,_,rfl⟩:=List.mem_map.1 (show u∈(E.es.filter fun y=>l6 (E.poss f.t.bs) y.t).map fun y=>J3 y.id from hu)
     rfl
 · generalize E.args f (U4 fs)=r
   obtain ⟨a,e⟩:=r
   dsimp only
   split
   · rw [R8]
     have h:=(hV f.t (J3 (atK a.kind a.names a.vals idN).text) fs path (E.know s f.t.bs)).2 (Few.flat rfl)
     rw [B3] at h
     exact h
   · show (E.know s f.t.bs).steps≤_
     rw [B3]; omega
theorem a2H (hE:E.Little) (hV:b0L V) (typ:List Nat) (x:Ent) (hx:∀ v∈x.ls,Few v) (path:Pth):∀ (gs:List (List Nat×List Sel)) (ks:List (List Nat)) (ls:List Val) (s:RS),(u9 E V typ x path gs ks ls s).2.steps≤s.steps+P8 gs
 | [],ks,ls,s=>by simp [u9,P8]
 | (key,fs)::gs,ks,ls,s=>by
  unfold u9 P8
  cases E.fld typ (R3 fs) with
  | none =>
   have:=a2H hE hV typ x hx path gs ks ls s
   dsimp only
   omega
  | some f =>
   dsimp only
   have h0:=b1y s
   split
   · have h1:=b6p hE hV typ x hx f fs (path++[key]) s.step
     revert h1
     generalize m8 E V typ x f fs (path++[key]) s.step=r
     obtain ⟨⟨y,ok⟩,s2⟩:=r
     intro h1
     dsimp only at h1 ⊢
     split
     · have:=a2H hE hV typ x hx path gs (ks++[key]) (ls++[y]) s2
       omega
     · dsimp only; omega
   · dsimp only; omega
theorem b2r (hE:E.Little):∀ n,b0L (valF E n)
 | 0=>fun t v fs path s=>⟨fun _=>by simp [valF],fun _=>by simp [valF]⟩
 | n+1=>fun t v fs path s=>by
  have ih:=b2r hE n
  have main:(v.vals=[]→(valF E (n+1) t v fs path s).2.steps≤s.steps+r5 (m2 fs))∧(Few v→(valF E (n+1) t v fs path s).2.steps≤s.steps+12*(1+r5 (m2 fs))):=by
   rw [valF.eq_def]
   dsimp only
   split
   · exact ⟨fun _=>Nat.le_add_right _ _,fun _=>Nat.le_add_right _ _⟩
   cases t with
   | wrap u b =>
    dsimp only
    split
    · refine ⟨fun h=>?_,fun h=>?_⟩
      · have:=a2L ih u fs path v.vals 0 [] s (by rw [h]; simp)
        rw [h] at this ⊢
        simp only [List.length_nil,Nat.zero_mul] at this
        omega
      · have:=a2L ih u fs path v.vals 0 [] s h.2
        have h2:=Nat.mul_le_mul_right (1+r5 (m2 fs)) h.1
        omega
    · exact ⟨fun _=>Nat.le_add_right _ _,fun _=>Nat.le_add_right _ _⟩
   | base nm b =>
    dsimp only
    split
    · split
      · exact ⟨fun _=>Nat.le_add_right _ _,fun _=>Nat.le_add_right _ _⟩
      · exact ⟨fun _=>Nat.le_add_right _ _,fun _=>Nat.le_add_right _ _⟩
    split
    · cases hg:a0x E.es v.text with
      | none=>dsimp only; rw [B3]; exact ⟨fun _=>Nat.le_add_right _ _,fun _=>Nat.le_add_right _ _⟩
      | some x =>
       dsimp only
       split
       · have h1:=a2H hE ih x.t x (hE.vals x (a3u hg).1) path (E.grp x.t (m2 fs)) [] [] (E.know s nm)
         have h2:=hE.grp x.t (m2 fs)
         rw [B3] at h1
         revert h1
         generalize u9 E (valF E n) x.t x path (E.grp x.t (m2 fs)) [] [] (E.know s nm)=r
         obtain ⟨⟨y,ok⟩,s2⟩:=r
         intro h1
         dsimp only at h1 ⊢
         exact ⟨fun _=>by omega,fun _=>by omega⟩
       · rw [B3]; exact ⟨fun _=>Nat.le_add_right _ _,fun _=>Nat.le_add_right _ _⟩
    · exact ⟨fun _=>Nat.le_add_right _ _,fun _=>Nat.le_add_right _ _⟩
  exact main
end
def Sel.kd:Sel→Int|.mk k _ _ _ _ _ _=>k
theorem a9A (x:Sel) (hx:eqI x.kd 1=true):∀ gs,P8 (F5 gs x)≤P8 gs+x.cost
 | []=>by
  obtain ⟨k,al,nm,on,as,ds,sub⟩:=x
  have hx:eqI k 1=true:=hx
  rw [a8I,if_pos hx]
  simp [F5,P8,m2,Sel.sub]
 | g::gs=>by
  have ih:=a9A x hx gs
  obtain ⟨k,al,nm,on,as,ds,sub⟩:=x
  have hx:eqI k 1=true:=hx
  rw [a8I,if_pos hx] at ih ⊢
  rw [F5]
  split
  · simp only [P8,m2,List.flatMap_append,a1s]
    simp only [List.flatMap_cons,List.flatMap_nil,List.append_nil,Sel.sub]
    omega
  · simp only [P8]; omega
theorem b8R:∀ F:List Sel,(∀ x∈F,eqI x.kd 1=true)→P8 (G5 F)≤r5 F:=by
 refine a0Q (by simp [G5,P8]) fun F x ih=>?_
 intro h
 rw [a3z,a1s,H9]
 have h1:=a9A x (h x (by simp)) (G5 F)
 have h2:=ih fun y hy=>h y (by simp [hy])
 simp only [r5]
 omega
theorem FRun.cost {K:Cfg} (hK:K.frags=[]) {l:List Sel} {s:List (List Nat)} {F:List Sel} {s':List (List Nat)} (h:FRun K l s F s'):(∀ x∈F,eqI x.kd 1=true)∧r5 F≤r5 l:=by
 induction h with
 | nil s=>exact ⟨by simp,AJ _⟩
 | skipC _ _ ih=>rw [H9]; exact ⟨ih.1,by omega⟩
 | fieldC _ b _ ih =>
  rw [H9,H9]
  exact ⟨fun x hx=>by rcases List.mem_cons.1 hx with rfl|hx; exact b; exact ih.1 x hx,by omega⟩
 | noneC _ _ _ _ _ ih=>rw [H9]; exact ⟨ih.1,by omega⟩
 | otherC _ _ _ g1 g2 _ _ _ ih=>rw [hK] at g2; simp at g2
 | spreadC _ _ _ g1 g2 _ _ _ _ ih ih2=>rw [hK] at g2; simp at g2
 | inNoC _ _ _ _ _ ih=>rw [H9]; exact ⟨ih.1,by omega⟩
 | inlC _ b _ _ _ _ ih ih2 =>
  rw [H9,a1s,a8I,b]
  refine ⟨fun x hx=>?_,?_⟩
  · rcases AP.1 hx with hx|hx
    · exact ih.1 x hx
    · exact ih2.1 x hx
  · have:=ih.2; have:=ih2.2
    simp only [Bool.false_eq_true,if_false]
    omega
end Go.Cb.CodeA
set_option maxRecDepth 20000
set_option linter.unusedSimpArgs false
set_option linter.unusedVariables false
namespace Go.Cb.CodeA
open Go Go.Cb
theorem Val.Fin.vals {v:Val} (h:v.Fin):∀ u∈v.vals,u.Fin:=by cases h with|mk k n s ks ls hk hl h=>exact h
structure REnv.Fine (E:REnv):Prop where
 es:E.es.length≤100000
 vals:∀ e∈E.es,∀ v∈e.ls,v.Fin
theorem b6x {s:RS} (h:s.step.steps≤5000):s.step.steps=s.steps+1:=by
 unfold RS.step at h ⊢
 dsimp only at h ⊢
 split
 · rfl
 · rename_i c; rw [if_neg c] at h; omega
section
variable {E:REnv} {V:VF}
end
end Go.Cb.CodeA
