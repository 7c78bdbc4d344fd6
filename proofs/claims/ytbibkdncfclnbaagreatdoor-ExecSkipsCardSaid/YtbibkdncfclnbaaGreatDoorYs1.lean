import Derived.Test.YtbibkdncfclnbaaGreatDoorXs1
import Derived.Test.YtbibkdncfclnbaaGreatDoorC6
set_option maxRecDepth 20000
set_option linter.unusedSimpArgs false
set_option linter.unusedVariables false
namespace Go.Cb.CodeA
open Go Go.Cb
/-! what telling does to how it stands -/
/-- what holds from one stand to a later one -/
structure Steady (E:REnv) (R:RS→RS→Prop):Prop where
 refl:∀ s,R s s
 trans:∀ {a b c},R a b→R b c→R a c
 step:∀ s,R s s.step
 prob:∀ s p e,R s (s.prob p e)
 know:∀ s n,R s (E.know s n)
def Inv (R:RS→RS→Prop) (V:VF):Prop:=∀ t v fs path s,R s (V t v fs path s).2
section
variable {E:REnv} {R:RS→RS→Prop}
theorem X3 (hR:Steady E R) {V:VF} (hV:Inv R V) (t:TRef) (v:Val) (fs:List Sel) (path:List (List Nat)) (s:RS):R s (s9 V t v fs path s).2:=by
 have h:=hV t v fs path s
 unfold s9
 revert h
 generalize V t v fs path s=r
 obtain ⟨out,s2⟩:=r
 intro h
 dsimp only at h ⊢
 split
 · dsimp only
   split
   · exact hR.trans h (hR.prob _ _ _)
   · exact h
 · exact h
theorem a2Q (hR:Steady E R) {V:VF} (hV:Inv R V) (t:TRef) (fs:List Sel) (path:List (List Nat)):∀ (l:List Val) (i:Nat) (acc:List Val) (s:RS),R s (B1 V t fs path l i acc s).2
 | [],i,acc,s=>hR.refl s
 | x::xs,i,acc,s=>by
  unfold B1
  have h0:=hR.step s
  split
  · have h1:=X3 hR hV t x fs (path++[C9 (i:Int)]) s.step
    revert h1
    generalize s9 V t x fs (path++[C9 (i:Int)]) s.step=r
    obtain ⟨⟨y,ok⟩,s2⟩:=r
    intro h1
    dsimp only at h1 ⊢
    split
    · exact hR.trans (hR.trans h0 h1) (a2Q hR hV t fs path xs (i+1) _ s2)
    · exact hR.trans h0 h1
  · exact h0
theorem a2A (hR:Steady E R) {V:VF} (hV:Inv R V) (typ:List Nat) (x:Ent) (f:FDef) (fs:List Sel) (path:List (List Nat)) (s:RS):R s (y8 E V typ x f fs path s).2:=by
 unfold y8
 split
 · exact hR.refl s
 split
 · exact X3 hR hV _ _ _ _ _
 split
 · exact hR.trans (hR.know s _) (X3 hR hV _ _ _ _ _)
 · generalize E.args f (S2 fs)=r
   obtain ⟨a,e⟩:=r
   dsimp only
   split
   · exact hR.trans (hR.know s _) (X3 hR hV _ _ _ _ _)
   · exact hR.trans (hR.know s _) (hR.prob _ _ _)
theorem a1t (hR:Steady E R) {V:VF} (hV:Inv R V) (typ:List Nat) (x:Ent) (path:List (List Nat)):∀ (gs:List (List Nat×List Sel)) (ks:List (List Nat)) (ls:List Val) (s:RS),R s (A0 E V typ x path gs ks ls s).2
 | [],ks,ls,s=>hR.refl s
 | (key,fs)::gs,ks,ls,s=>by
  unfold A0
  cases hf:E.fld typ (a0o fs) with
  | none=>exact a1t hR hV typ x path gs ks ls s
  | some f =>
   dsimp only
   have h0:=hR.step s
   split
   · have h1:=a2A hR hV typ x f fs (path++[key]) s.step
     revert h1
     generalize y8 E V typ x f fs (path++[key]) s.step=r
     obtain ⟨⟨y,ok⟩,s2⟩:=r
     intro h1
     dsimp only at h1 ⊢
     split
     · exact hR.trans (hR.trans h0 h1) (a1t hR hV typ x path gs _ _ s2)
     · exact hR.trans h0 h1
   · exact h0
theorem P8 (hR:Steady E R):∀ n,Inv R (valF E n)
 | 0=>fun t v fs path s=>hR.refl s
 | n+1=>fun t v fs path s=>by
  rw [valF.eq_def]
  dsimp only
  split
  · exact hR.refl s
  cases t with
  | wrap u b =>
   dsimp only
   split
   · exact a2Q hR (P8 hR n) u fs path _ _ _ s
   · exact hR.prob _ _ _
  | base nm b =>
   dsimp only
   split
   · split
     · exact hR.refl s
     · exact hR.prob _ _ _
   split
   · cases hg:Z5 E.es v.text with
     | none=>exact hR.know s nm
     | some x =>
      dsimp only
      split
      · have h1:=hR.trans (hR.know s nm) (a1t hR (P8 hR n) x.t x path (E.grp x.t (l7 fs)) [] [] (E.know s nm))
        revert h1
        generalize A0 E (valF E n) x.t x path (E.grp x.t (l7 fs)) [] [] (E.know s nm)=r
        obtain ⟨⟨y,ok⟩,s2⟩:=r
        exact id
      · exact hR.know s nm
   · exact hR.prob _ _ _
end
theorem C0 (E:REnv) (s:RS) (n:List Nat):(E.know s n).steps=s.steps:=by unfold REnv.know; split <;> rfl
theorem c5c (s:RS):s.steps≤s.step.steps:=by unfold RS.step; dsimp only; split <;> omega
def a1n (s s2:RS):Prop:=s.steps≤s2.steps
theorem E6 (E:REnv):Steady E a1n:=⟨fun _=>Nat.le_refl _,Nat.le_trans,c5c,fun _ _ _=>Nat.le_refl _,fun s n=>Nat.le_of_eq (C0 E s n).symm⟩
def c54 (s s2:RS):Prop:=s2.part=s.part
theorem a3A {E:REnv} (h:∀ n,E.knows n=true):Steady E c54:=⟨fun _=>rfl,fun h1 h2=>h2.trans h1,fun _=>rfl,fun _ _ _=>rfl,fun s n=>by unfold REnv.know; rw [if_pos (h n)]; rfl⟩
theorem T6 (V:VF) (t:TRef) (v:Val) (fs:List Sel) (path:List (List Nat)) (s:RS):(s9 V t v fs path s).2.steps=(V t v fs path s).2.steps:=by
 unfold s9
 generalize V t v fs path s=r
 obtain ⟨out,s2⟩:=r
 dsimp only
 split
 · dsimp only
   split <;> rfl
 · rfl

/-! the same told at another path, behind other problems and more steps -/
/-- surroundings that answer the same -/
structure REnv.Sim (E E':REnv):Prop where
 es:E'.es=E.es
 fld:E'.fld=E.fld
 grp:E'.grp=E.grp
 poss:E'.poss=E.poss
 leaf:E'.leaf=E.leaf
 fits:E'.fits=E.fits
 knows:E'.knows=E.knows
 args:E'.args=E.args
theorem REnv.Sim.refl (E:REnv):E.Sim E:=⟨rfl,rfl,rfl,rfl,rfl,rfl,rfl,rfl⟩
abbrev Pth:=List (List Nat)
def b89 (p:Pth) (x:Pth×Int):Pth×Int:=(p++x.1,x.2)
section
variable (d:Nat) (A B:List (Pth×Int)) (p q:Pth)
structure RelS (s s':RS):Prop where
 ps:∃ l:List (Pth×Int),s.ps=A++l.map (b89 p)∧s'.ps=B++l.map (b89 q)
 part:s'.part=s.part
 steps:s'.steps=s.steps+d
/-- there is room for what is told -/
def Room (s:RS):Prop:=d=0∨s.steps≤5000
def a0C (V V':VF):Prop:=∀ t v fs fs' r s s',l7 fs=l7 fs'→RelS d A B p q s s'→Room d (V' t v fs' (q++r) s').2→(V t v fs (p++r) s).1=(V' t v fs' (q++r) s').1∧RelS d A B p q (V t v fs (p++r) s).2 (V' t v fs' (q++r) s').2
end
section
variable {d:Nat} {A B:List (Pth×Int)} {p q:Pth}
theorem Room.le {s s2:RS} (h:Room d s2) (hl:s.steps≤s2.steps):Room d s:=h.imp id fun h=>Nat.le_trans hl h
theorem RelS.prob {s s':RS} (h:RelS d A B p q s s') (r:Pth) (e:Int):RelS d A B p q (s.prob (p++r) e) (s'.prob (q++r) e):=by
 obtain ⟨l,h1,h2⟩:=h.ps
 refine ⟨⟨l++[(r,e)],?_,?_⟩,h.part,h.steps⟩
 · show s.ps++_=_
   rw [h1,List.map_append,List.append_assoc]; rfl
 · show s'.ps++_=_
   rw [h2,List.map_append,List.append_assoc]; rfl
theorem RelS.step {s s':RS} (h:RelS d A B p q s s') (hr:Room d s'.step):RelS d A B p q s.step s'.step∧(s.step.steps≤5000 ↔ s'.step.steps≤5000):=by
 have hs:=h.steps
 have e1:s.step.steps=if s.steps≤5000 then s.steps+1 else s.steps:=rfl
 have e2:s'.step.steps=if s'.steps≤5000 then s'.steps+1 else s'.steps:=rfl
 have hd:s'.step.steps=s.step.steps+d:=by
  rcases hr with rfl|hr
  · rw [e1,e2,hs]; simp only [Nat.add_zero]
  · rw [e2] at hr
    rw [e1,e2,hs]
    rw [hs] at hr
    by_cases c:s.steps+d≤5000
    · rw [if_pos c,if_pos (by omega)]; omega
    · rw [if_neg c] at hr; omega
 refine ⟨⟨h.ps,h.part,hd⟩,?_⟩
 rcases hr with rfl|hr
 · rw [hd,Nat.add_zero]
 · exact ⟨fun _=>hr,fun _=>by omega⟩
theorem a1W {V V':VF} (hV:a0C d A B p q V V') (t:TRef) (v:Val) {fs fs':List Sel} (hf:l7 fs=l7 fs') (r:Pth) {s s':RS} (h:RelS d A B p q s s') (hr:Room d (s9 V' t v fs' (q++r) s').2) :
 (s9 V t v fs (p++r) s).1=(s9 V' t v fs' (q++r) s').1∧RelS d A B p q (s9 V t v fs (p++r) s).2 (s9 V' t v fs' (q++r) s').2:=by
 have hr2:Room d (V' t v fs' (q++r) s').2:=hr.imp id fun h=>by rw [T6] at h; exact h
 obtain ⟨e1,e2⟩:=hV t v fs fs' r s s' hf h hr2
 unfold s9
 revert e1 e2
 generalize V t v fs (p++r) s=x
 generalize V' t v fs' (q++r) s'=x'
 obtain ⟨out,s2⟩:=x
 obtain ⟨out',s2'⟩:=x'
 intro e1 e2
 dsimp only at e1 e2 ⊢
 subst e1
 obtain ⟨l,a1,a2⟩:=h.ps
 obtain ⟨l2,b1,b2⟩:=e2.ps
 have hl:(s2.ps.length=s.ps.length) ↔ (s2'.ps.length=s'.ps.length):=by
  rw [a1,a2,b1,b2]
  simp only [List.length_append,List.length_map]
  omega
 split
 · refine ⟨rfl,?_⟩
   dsimp only
   by_cases c:s2.ps.length=s.ps.length
   · rw [if_pos c,if_pos (hl.1 c)]; exact e2.prob r 9
   · rw [if_neg c,if_neg (fun h=>c (hl.2 h))]; exact e2
 · exact ⟨rfl,e2⟩
theorem a8I {E':REnv} {V V':VF} (hM:Inv a1n V') (hV:a0C d A B p q V V') (t:TRef) {fs fs':List Sel} (hf:l7 fs=l7 fs') (r:Pth):∀ (l:List Val) (i:Nat) (acc:List Val) {s s':RS},RelS d A B p q s s'→Room d (B1 V' t fs' (q++r) l i acc s').2 →
 (B1 V t fs (p++r) l i acc s).1=(B1 V' t fs' (q++r) l i acc s').1∧RelS d A B p q (B1 V t fs (p++r) l i acc s).2 (B1 V' t fs' (q++r) l i acc s').2
 | [],i,acc,s,s',h,hr=>⟨rfl,h⟩
 | x::xs,i,acc,s,s',h,hr=>by
  unfold B1 at hr ⊢
  by_cases c':s'.step.steps≤5000
  · rw [if_pos c'] at hr
    have hro:Room d s'.step:=.inr c'
    obtain ⟨h1,h2⟩:=h.step hro
    rw [if_pos c',if_pos (h2.2 c')]
    have hc:=a1W hV t x hf (r++[C9 (i:Int)]) h1
    rw [← List.append_assoc,← List.append_assoc] at hc
    revert hc hr
    generalize s9 V t x fs (p++r++[C9 (i:Int)]) s.step=y
    generalize s9 V' t x fs' (q++r++[C9 (i:Int)]) s'.step=y'
    obtain ⟨⟨y,ok⟩,s2⟩:=y
    obtain ⟨⟨y',ok'⟩,s2'⟩:=y'
    intro hr hc
    dsimp only at hr hc ⊢
    have hr2:Room d s2':=by
     cases ok' with
     | true=>exact hr.le (a2Q (E6 E') hM t fs' (q++r) xs (i+1) (acc++[y']) s2')
     | false=>exact hr
    obtain ⟨e1,e2⟩:=hc hr2
    cases e1
    cases ok with
    | true=>exact a8I (E':=E') hM hV t hf r xs (i+1) (acc++[y]) e2 hr
    | false=>exact ⟨rfl,e2⟩
  · rw [if_neg c'] at hr ⊢
    obtain ⟨h1,h2⟩:=h.step hr
    rw [if_neg (fun c=>c' (h2.1 c))]
    exact ⟨rfl,h1⟩
theorem RelS.know {E E':REnv} (hE:E.Sim E') {s s':RS} (h:RelS d A B p q s s') (n:List Nat):RelS d A B p q (E.know s n) (E'.know s' n):=by
 unfold REnv.know
 rw [hE.knows]
 split
 · exact h
 · exact ⟨h.ps,rfl,h.steps⟩
theorem b7e {E E':REnv} (hE:E.Sim E') {V V':VF} (hM:Inv a1n V') (hV:a0C d A B p q V V') (typ:List Nat) (x:Ent) (f:FDef) {fs fs':List Sel} (hf:l7 fs=l7 fs') (ha:S2 fs=S2 fs') (r:Pth) {s s':RS} (h:RelS d A B p q s s') (hr:Room d (y8 E' V' typ x f fs' (q++r) s').2) :
 (y8 E V typ x f fs (p++r) s).1=(y8 E' V' typ x f fs' (q++r) s').1∧RelS d A B p q (y8 E V typ x f fs (p++r) s).2 (y8 E' V' typ x f fs' (q++r) s').2:=by
 unfold y8 at hr ⊢
 rw [hE.es,hE.poss,hE.args,← ha] at *
 split at hr
 · rename_i c; rw [if_pos c,if_pos c]; exact ⟨rfl,h⟩
 rename_i c
 rw [if_neg c,if_neg c]
 split at hr
 · rename_i c; rw [if_pos c,if_pos c]; exact a1W hV f.t _ hf r h hr
 rename_i c
 rw [if_neg c,if_neg c]
 split at hr
 · rename_i c; rw [if_pos c,if_pos c]; exact a1W hV f.t _ hf r (h.know hE _) hr
 rename_i c
 rw [if_neg c,if_neg c]
 revert hr
 generalize E.args f (S2 fs)=y
 obtain ⟨a,e⟩:=y
 intro hr
 dsimp only at hr ⊢
 split at hr
 · rename_i c; rw [if_pos c,if_pos c]; exact a1W hV f.t _ hf r (h.know hE _) hr
 · rename_i c; rw [if_neg c,if_neg c]; exact ⟨rfl,(h.know hE _).prob r e⟩
theorem a3r {E E':REnv} (hE:E.Sim E') {V V':VF} (hM:Inv a1n V') (hV:a0C d A B p q V V') (typ:List Nat) (x:Ent) (r:Pth):∀ (gs:List (List Nat×List Sel)) (ks:List (List Nat)) (ls:List Val) {s s':RS},RelS d A B p q s s'→Room d (A0 E' V' typ x (q++r) gs ks ls s').2 →
 (A0 E V typ x (p++r) gs ks ls s).1=(A0 E' V' typ x (q++r) gs ks ls s').1∧RelS d A B p q (A0 E V typ x (p++r) gs ks ls s).2 (A0 E' V' typ x (q++r) gs ks ls s').2
 | [],ks,ls,s,s',h,hr=>⟨rfl,h⟩
 | (key,fs)::gs,ks,ls,s,s',h,hr=>by
  unfold A0 at hr ⊢
  rw [hE.fld] at hr ⊢
  cases hf:E.fld typ (a0o fs) with
  | none =>
   rw [hf] at hr
   exact a3r hE hM hV typ x r gs ks ls h hr
  | some f =>
   rw [hf] at hr
   dsimp only at hr ⊢
   by_cases c':s'.step.steps≤5000
   · rw [if_pos c'] at hr
     have hro:Room d s'.step:=.inr c'
     obtain ⟨h1,h2⟩:=h.step hro
     rw [if_pos c',if_pos (h2.2 c')]
     have hc:=b7e hE hM hV typ x f (fs:=fs) rfl rfl (r++[key]) h1
     rw [← List.append_assoc,← List.append_assoc] at hc
     revert hc hr
     generalize y8 E V typ x f fs (p++r++[key]) s.step=y
     generalize y8 E' V' typ x f fs (q++r++[key]) s'.step=y'
     obtain ⟨⟨y,ok⟩,s2⟩:=y
     obtain ⟨⟨y',ok'⟩,s2'⟩:=y'
     intro hr hc
     dsimp only at hr hc ⊢
     have hr2:Room d s2':=by
      cases ok' with
      | true=>exact hr.le (a1t (E6 E') hM typ x (q++r) gs (ks++[key]) (ls++[y']) s2')
      | false=>exact hr
     obtain ⟨e1,e2⟩:=hc hr2
     cases e1
     cases ok with
     | true=>exact a3r hE hM hV typ x r gs (ks++[key]) (ls++[y]) e2 hr
     | false=>exact ⟨rfl,e2⟩
   · rw [if_neg c'] at hr ⊢
     obtain ⟨h1,h2⟩:=h.step hr
     rw [if_neg (fun c=>c' (h2.1 c))]
     exact ⟨rfl,h1⟩
theorem b2M {E E':REnv} (hE:E.Sim E'):∀ n,a0C d A B p q (valF E n) (valF E' n)
 | 0=>fun t v fs fs' r s s' hf h hr=>⟨rfl,h⟩
 | n+1=>fun t v fs fs' r s s' hf h hr=>by
  have ih:a0C d A B p q (valF E n) (valF E' n):=b2M hE n
  have hM:=P8 (E6 E') n
  rw [valF.eq_def] at hr ⊢
  rw [valF.eq_def (E:=E')]
  dsimp only at hr ⊢
  split at hr
  · rename_i c; rw [if_pos c,if_pos c]; exact ⟨rfl,h⟩
  rename_i c
  rw [if_neg c,if_neg c]
  cases t with
  | wrap u b =>
   dsimp only at hr ⊢
   split at hr
   · rename_i c; rw [if_pos c,if_pos c]; exact a8I (E':=E') hM ih u hf r _ _ _ h hr
   · rename_i c; rw [if_neg c,if_neg c]; exact ⟨rfl,h.prob r 8⟩
  | base nm b =>
   dsimp only at hr ⊢
   rw [hE.leaf] at *
   split at hr
   · rename_i c
     rw [if_pos c,if_pos c]
     have el:a2c E' nm v=a2c E nm v:=by unfold a2c; rw [hE.fits]
     rw [el] at *
     split
     · exact ⟨rfl,h⟩
     · exact ⟨rfl,h.prob r 8⟩
   rename_i c
   rw [if_neg c,if_neg c]
   split at hr
   · rename_i c
     rw [if_pos c,if_pos c]
     rw [hE.es,hE.poss,hE.grp,← hf] at *
     cases hg:Z5 E.es v.text with
     | none=>exact ⟨rfl,h.know hE nm⟩
     | some x =>
      rw [hg] at hr
      dsimp only at hr ⊢
      split at hr
      · rename_i c
        rw [if_pos c,if_pos c]
        have ho:=a3r hE hM ih x.t x r (E.grp x.t (l7 fs)) [] [] (h.know hE nm)
        revert hr ho
        generalize A0 E (valF E n) x.t x (p++r) (E.grp x.t (l7 fs)) [] [] (E.know s nm)=y
        generalize A0 E' (valF E' n) x.t x (q++r) (E.grp x.t (l7 fs)) [] [] (E'.know s' nm)=y'
        obtain ⟨⟨y,ok⟩,s2⟩:=y
        obtain ⟨⟨y',ok'⟩,s2'⟩:=y'
        intro hr ho
        dsimp only at hr ho ⊢
        obtain ⟨e1,e2⟩:=ho hr
        cases e1
        exact ⟨rfl,e2⟩
      · rename_i c
        rw [if_neg c,if_neg c]
        exact ⟨rfl,h.know hE nm⟩
   · rename_i c
     rw [if_neg c,if_neg c]
     exact ⟨rfl,h.prob r 8⟩
end
end Go.Cb.CodeA
set_option maxRecDepth 20000
set_option linter.unusedSimpArgs false
set_option linter.unusedVariables false
namespace Go.Cb.CodeA
open Go Go.Cb
/-! how many steps telling takes, where lists are short -/
mutual
def Sel.cost:Sel→Nat
 | .mk k _ _ _ _ _ sub=>if eqI k 1 then 13+12*r6 sub else r6 sub
def r6:List Sel→Nat
 | []=>0
 | x::xs=>x.cost+r6 xs
end
theorem G7 (x:Sel) (l:List Sel):r6 (x::l)=x.cost+r6 l:=by rw [r6]
theorem a7r (k:Int) (al nm on:List Nat) (as:List Arg) (ds:List Dir) (sub:List Sel):(Sel.mk k al nm on as ds sub).cost=if eqI k 1 then 13+12*r6 sub else r6 sub:=by rw [Sel.cost]
theorem a03:∀ a b:List Sel,r6 (a++b)=r6 a+r6 b
 | [],b=>by simp [r6]
 | x::a,b=>by rw [List.cons_append,G7,G7,a03 a b]; omega
def N2:List (List Nat×List Sel)→Nat
 | []=>0
 | g::gs=>13+12*r6 (l7 g.2)+N2 gs
def Few (v:Val):Prop:=v.vals.length≤12∧∀ u∈v.vals,u.vals=[]
theorem Few.flat {v:Val} (h:v.vals=[]):Few v:=⟨by rw [h]; simp,by rw [h]; simp⟩
structure REnv.Little (E:REnv):Prop where
 es:E.es.length≤12
 vals:∀ e∈E.es,∀ v∈e.ls,Few v
 grp:∀ typ l,N2 (E.grp typ l)≤r6 l
def a9r (V:VF):Prop:=∀ t v fs path s,(v.vals=[]→(V t v fs path s).2.steps≤s.steps+r6 (l7 fs))∧(Few v→(V t v fs path s).2.steps≤s.steps+12*(1+r6 (l7 fs)))
theorem b1z (s:RS):s.step.steps≤s.steps+1:=by unfold RS.step; dsimp only; split <;> omega
section
variable {E:REnv} {V:VF}
theorem a1O (hV:a9r V) (t:TRef) (fs:List Sel) (path:Pth):∀ (l:List Val) (i:Nat) (acc:List Val) (s:RS),(∀ u∈l,u.vals=[])→(B1 V t fs path l i acc s).2.steps≤s.steps+l.length*(1+r6 (l7 fs))
 | [],i,acc,s,_=>by simp [B1]
 | x::xs,i,acc,s,h=>by
  have h0:=b1z s
  have h1:=(hV t x fs (path++[C9 (i:Int)]) s.step).1 (h x (by simp))
  rw [← T6] at h1
  unfold B1
  rw [List.length_cons,Nat.succ_mul]
  split
  · revert h1
    generalize s9 V t x fs (path++[C9 (i:Int)]) s.step=r
    obtain ⟨⟨y,ok⟩,s2⟩:=r
    intro h1
    dsimp only at h1 ⊢
    split
    · have:=a1O hV t fs path xs (i+1) (acc++[y]) s2 (fun u hu=>h u (by simp [hu]))
      omega
    · dsimp only; omega
  · dsimp only; omega
theorem c3n {x:Ent} (hx:∀ v∈x.ls,Few v) (n:List Nat):Few (atK 6 x.ks x.ls n):=by
 unfold atK
 rw [if_pos (show eqI 6 6=true from rfl)]
 cases pI (fun y=>eqN n y) x.ks with
 | none=>exact Few.flat rfl
 | some i =>
  dsimp only
  cases hi:x.ls[i]? with
  | none=>exact Few.flat rfl
  | some v=>exact hx v (List.mem_of_getElem? hi)
theorem b4c (hE:E.Little) (hV:a9r V) (typ:List Nat) (x:Ent) (hx:∀ v∈x.ls,Few v) (f:FDef) (fs:List Sel) (path:Pth) (s:RS):(y8 E V typ x f fs path s).2.steps≤s.steps+12*(1+r6 (l7 fs)):=by
 unfold y8
 split
 · dsimp only; omega
 split
 · rw [T6]; exact (hV _ _ _ _ _).2 (c3n hx _)
 split
 · rw [T6]
   have h:=(hV f.t (.mk 5 0 [] [] ((E.es.filter fun y=>j9 (E.poss f.t.bs) y.t).map fun y=>I9 y.id)) fs path (E.know s f.t.bs)).2 ⟨?_,?_⟩
   · rw [C0] at h; exact h
   · show ((E.es.filter fun y=>j9 (E.poss f.t.bs) y.t).map fun y=>I9 y.id).length≤12
     rw [List.length_map]
     exact Nat.le_trans (List.length_filter_le _ _) hE.es
   · intro u hu
     obtain ⟨y,_,rfl⟩:=List.mem_map.1 (show u∈(E.es.filter fun y=>j9 (E.poss f.t.bs) y.t).map fun y=>I9 y.id from hu)
     rfl
 · generalize E.args f (S2 fs)=r
   obtain ⟨a,e⟩:=r
   dsimp only
   split
   · rw [T6]
     have h:=(hV f.t (I9 (atK a.kind a.names a.vals idN).text) fs path (E.know s f.t.bs)).2 (Few.flat rfl)
     rw [C0] at h
     exact h
   · show (E.know s f.t.bs).steps≤_
     rw [C0]; omega
theorem a1L (hE:E.Little) (hV:a9r V) (typ:List Nat) (x:Ent) (hx:∀ v∈x.ls,Few v) (path:Pth):∀ (gs:List (List Nat×List Sel)) (ks:List (List Nat)) (ls:List Val) (s:RS),(A0 E V typ x path gs ks ls s).2.steps≤s.steps+N2 gs
 | [],ks,ls,s=>by simp [A0,N2]
 | (key,fs)::gs,ks,ls,s=>by
  unfold A0 N2
  cases E.fld typ (a0o fs) with
  | none =>
   have:=a1L hE hV typ x hx path gs ks ls s
   dsimp only
   omega
  | some f =>
   dsimp only
   have h0:=b1z s
   split
   · have h1:=b4c hE hV typ x hx f fs (path++[key]) s.step
     revert h1
     generalize y8 E V typ x f fs (path++[key]) s.step=r
     obtain ⟨⟨y,ok⟩,s2⟩:=r
     intro h1
     dsimp only at h1 ⊢
     split
     · have:=a1L hE hV typ x hx path gs (ks++[key]) (ls++[y]) s2
       omega
     · dsimp only; omega
   · dsimp only; omega
theorem b1Y (hE:E.Little):∀ n,a9r (valF E n)
 | 0=>fun t v fs path s=>⟨fun _=>by simp [valF],fun _=>by simp [valF]⟩
 | n+1=>fun t v fs path s=>by
  have ih:=b1Y hE n
  have main:(v.vals=[]→(valF E (n+1) t v fs path s).2.steps≤s.steps+r6 (l7 fs))∧(Few v→(valF E (n+1) t v fs path s).2.steps≤s.steps+12*(1+r6 (l7 fs))):=by
   rw [valF.eq_def]
   dsimp only
   split
   · exact ⟨fun _=>Nat.le_add_right _ _,fun _=>Nat.le_add_right _ _⟩
   cases t with
   | wrap u b =>
    dsimp only
    split
    · refine ⟨fun h=>?_,fun h=>?_⟩
      · have:=a1O ih u fs path v.vals 0 [] s (by rw [h]; simp)
        rw [h] at this ⊢
        simp only [List.length_nil,Nat.zero_mul] at this
        omega
      · have:=a1O ih u fs path v.vals 0 [] s h.2
        have h2:=Nat.mul_le_mul_right (1+r6 (l7 fs)) h.1
        omega
    · exact ⟨fun _=>Nat.le_add_right _ _,fun _=>Nat.le_add_right _ _⟩
   | base nm b =>
    dsimp only
    split
    · split
      · exact ⟨fun _=>Nat.le_add_right _ _,fun _=>Nat.le_add_right _ _⟩
      · exact ⟨fun _=>Nat.le_add_right _ _,fun _=>Nat.le_add_right _ _⟩
    split
    · cases hg:Z5 E.es v.text with
      | none=>dsimp only; rw [C0]; exact ⟨fun _=>Nat.le_add_right _ _,fun _=>Nat.le_add_right _ _⟩
      | some x =>
       dsimp only
       split
       · have h1:=a1L hE ih x.t x (hE.vals x (a2v hg).1) path (E.grp x.t (l7 fs)) [] [] (E.know s nm)
         have h2:=hE.grp x.t (l7 fs)
         rw [C0] at h1
         revert h1
         generalize A0 E (valF E n) x.t x path (E.grp x.t (l7 fs)) [] [] (E.know s nm)=r
         obtain ⟨⟨y,ok⟩,s2⟩:=r
         intro h1
         dsimp only at h1 ⊢
         exact ⟨fun _=>by omega,fun _=>by omega⟩
       · rw [C0]; exact ⟨fun _=>Nat.le_add_right _ _,fun _=>Nat.le_add_right _ _⟩
    · exact ⟨fun _=>Nat.le_add_right _ _,fun _=>Nat.le_add_right _ _⟩
  exact main
end
def Sel.kd:Sel→Int|.mk k _ _ _ _ _ _=>k
theorem a8R (x:Sel) (hx:eqI x.kd 1=true):∀ gs,N2 (D6 gs x)≤N2 gs+x.cost
 | []=>by
  obtain ⟨k,al,nm,on,as,ds,sub⟩:=x
  have hx:eqI k 1=true:=hx
  rw [a7r,if_pos hx]
  simp [D6,N2,l7,Sel.sub]
 | g::gs=>by
  have ih:=a8R x hx gs
  obtain ⟨k,al,nm,on,as,ds,sub⟩:=x
  have hx:eqI k 1=true:=hx
  rw [a7r,if_pos hx] at ih ⊢
  rw [D6]
  split
  · simp only [N2,l7,List.flatMap_append,a03]
    simp only [List.flatMap_cons,List.flatMap_nil,List.append_nil,Sel.sub]
    omega
  · simp only [N2]; omega
theorem b6y:∀ F:List Sel,(∀ x∈F,eqI x.kd 1=true)→N2 (J0 F)≤r6 F:=by
 refine a0x (by simp [J0,N2]) fun F x ih=>?_
 intro h
 rw [a2z,a03,G7]
 have h1:=a8R x (h x (by simp)) (J0 F)
 have h2:=ih fun y hy=>h y (by simp [hy])
 simp only [r6]
 omega
theorem FRun.cost {K:Cfg} (hK:K.frags=[]) {l:List Sel} {s:List (List Nat)} {F:List Sel} {s':List (List Nat)} (h:FRun K l s F s'):(∀ x∈F,eqI x.kd 1=true)∧r6 F≤r6 l:=by
 induction h with
 | nil s=>exact ⟨by simp,Nat.le_refl _⟩
 | skipC _ _ ih=>rw [G7]; exact ⟨ih.1,by omega⟩
 | fieldC _ b _ ih =>
  rw [G7,G7]
  exact ⟨fun x hx=>by rcases List.mem_cons.1 hx with rfl|hx; exact b; exact ih.1 x hx,by omega⟩
 | noneC _ _ _ _ _ ih=>rw [G7]; exact ⟨ih.1,by omega⟩
 | otherC _ _ _ g1 g2 _ _ _ ih=>rw [hK] at g2; simp at g2
 | spreadC _ _ _ g1 g2 _ _ _ _ ih ih2=>rw [hK] at g2; simp at g2
 | inNoC _ _ _ _ _ ih=>rw [G7]; exact ⟨ih.1,by omega⟩
 | inlC _ b _ _ _ _ ih ih2 =>
  rw [G7,a03,a7r,b]
  refine ⟨fun x hx=>?_,?_⟩
  · rcases List.mem_append.1 hx with hx|hx
    · exact ih.1 x hx
    · exact ih2.1 x hx
  · have:=ih.2; have:=ih2.2
    simp only [Bool.false_eq_true,if_false]
    omega
end Go.Cb.CodeA
set_option maxRecDepth 20000
set_option linter.unusedSimpArgs false
set_option linter.unusedVariables false
namespace Go.Cb.CodeA
open Go Go.Cb
/-! what is told is no more than there may be -/
def b8m (s s2:RS):Prop:=s.steps≤5001→s2.steps≤5001
theorem a0i (E:REnv):Steady E b8m:=⟨fun _ h=>h,fun h1 h2 h=>h2 (h1 h),fun s h=>by unfold RS.step; dsimp only; split <;> omega,fun _ _ _ h=>h,fun s n h=>by rw [C0]; exact h⟩
theorem Val.none_fin:Val.none.Fin:=.mk _ _ _ _ _ (by decide) (by decide) (by simp)
theorem a7e (k n:Int) (s:List Nat):(Val.mk k n s [] []).Fin:=.mk _ _ _ _ _ (by decide) (by decide) (by simp)
theorem Val.Fin.vals {v:Val} (h:v.Fin):∀ u∈v.vals,u.Fin:=by cases h with|mk k n s ks ls hk hl h=>exact h
structure REnv.Fine (E:REnv):Prop where
 es:E.es.length≤100000
 vals:∀ e∈E.es,∀ v∈e.ls,v.Fin
def b1m (V:VF):Prop:=∀ t v fs path s,v.Fin→s.steps≤5001→(V t v fs path s).1.Fin
theorem b68 {s:RS} (h:s.step.steps≤5000):s.step.steps=s.steps+1:=by
 unfold RS.step at h ⊢
 dsimp only at h ⊢
 split
 · rfl
 · rename_i c; rw [if_neg c] at h; omega
section
variable {E:REnv} {V:VF}
theorem a1X (hV:b1m V) (t:TRef) {v:Val} (hv:v.Fin) (fs:List Sel) (path:Pth) {s:RS} (hs:s.steps≤5001):(s9 V t v fs path s).1.1.Fin:=by
 have h:=hV t v fs path s hv hs
 unfold s9
 revert h
 generalize V t v fs path s=r
 obtain ⟨out,s2⟩:=r
 intro h
 dsimp only at h ⊢
 split
 · exact Val.none_fin
 · exact h
theorem a8f {E:REnv} {V:VF} (hV:b1m V) (hM:Inv a1n V) (hC:Inv b8m V) (t:TRef) (fs:List Sel) (path:Pth):∀ (l:List Val) (i:Nat) (acc:List Val) (s:RS),(∀ u∈l,u.Fin)→(∀ u∈acc,u.Fin)→acc.length≤s.steps→s.steps≤5001→(B1 V t fs path l i acc s).1.Fin
 | [],i,acc,s,_,ha,hl,hs=>by rw [B1]; exact .mk _ _ _ _ _ (by decide) (by omega) ha
 | x::xs,i,acc,s,h,ha,hl,hs=>by
  unfold B1
  split
  · rename_i c
    have hup:=b68 c
    have h1:=a1X hV t (h x (by simp)) fs (path++[C9 (i:Int)]) (s:=s.step) (by omega)
    have h2:=X3 (E6 E) hM t x fs (path++[C9 (i:Int)]) s.step
    have h3:=X3 (a0i E) hC t x fs (path++[C9 (i:Int)]) s.step
    revert h1 h2 h3
    generalize s9 V t x fs (path++[C9 (i:Int)]) s.step=r
    obtain ⟨⟨y,ok⟩,s2⟩:=r
    intro h1 h2 h3
    dsimp only at h1 h2 h3 ⊢
    have h2:s.step.steps≤s2.steps:=h2
    have h3:s2.steps≤5001:=h3 (by omega)
    split
    · refine a8f (E:=E) hV hM hC t fs path xs (i+1) (acc++[y]) s2 (fun u hu=>h u (by simp [hu])) (fun u hu=>?_) (by simp; omega) h3
      rcases List.mem_append.1 hu with hu|hu
      · exact ha u hu
      · simp at hu; subst hu; exact h1
    · exact Val.none_fin
  · exact Val.none_fin
theorem c2E {x:Ent} (hx:∀ v∈x.ls,v.Fin) (n:List Nat):(atK 6 x.ks x.ls n).Fin:=by
 unfold atK
 rw [if_pos (show eqI 6 6=true from rfl)]
 cases pI (fun y=>eqN n y) x.ks with
 | none=>exact Val.none_fin
 | some i =>
  dsimp only
  cases hi:x.ls[i]? with
  | none=>exact Val.none_fin
  | some v=>exact hx v (List.mem_of_getElem? hi)
theorem b7U (hE:E.Fine) (b:List Nat):(Val.mk 5 0 [] [] ((E.es.filter fun y=>j9 (E.poss b) y.t).map fun y=>I9 y.id)).Fin:=by
 refine .mk _ _ _ _ _ (by decide) ?_ fun u hu=>?_
 · rw [List.length_map]
   have:=List.length_filter_le (fun y=>j9 (E.poss b) y.t) E.es
   have:=hE.es
   omega
 · obtain ⟨y,_,rfl⟩:=List.mem_map.1 hu
   exact a7e _ _ _
theorem b43 (hE:E.Fine) (hV:b1m V) (typ:List Nat) {x:Ent} (hx:∀ v∈x.ls,v.Fin) (f:FDef) (fs:List Sel) (path:Pth) {s:RS} (hs:s.steps≤5001):(y8 E V typ x f fs path s).1.1.Fin:=by
 unfold y8
 split
 · exact a7e _ _ _
 split
 · exact a1X hV _ (c2E hx _) _ _ hs
 split
 · exact a1X hV _ (b7U hE _) _ _ (by rw [C0]; exact hs)
 · generalize E.args f (S2 fs)=r
   obtain ⟨a,e⟩:=r
   dsimp only
   split
   · exact a1X hV _ (a7e _ _ _) _ _ (by rw [C0]; exact hs)
   · exact Val.none_fin
theorem a3o (hE:E.Fine) (hV:b1m V) (hM:Inv a1n V) (hC:Inv b8m V) (typ:List Nat) {x:Ent} (hx:∀ v∈x.ls,v.Fin) (path:Pth):∀ (gs:List (List Nat×List Sel)) (ks:List (List Nat)) (ls:List Val) (s:RS),(∀ u∈ls,u.Fin)→ks.length≤s.steps→ls.length≤s.steps→s.steps≤5001→(A0 E V typ x path gs ks ls s).1.1.Fin
 | [],ks,ls,s,ha,hk,hl,hs=>by rw [A0]; exact .mk _ _ _ _ _ (by omega) (by omega) ha
 | (key,fs)::gs,ks,ls,s,ha,hk,hl,hs=>by
  unfold A0
  cases E.fld typ (a0o fs) with
  | none=>exact a3o hE hV hM hC typ hx path gs ks ls s ha hk hl hs
  | some f =>
   dsimp only
   split
   · rename_i c
     have hup:=b68 c
     have h1:=b43 hE hV typ hx f fs (path++[key]) (s:=s.step) (by omega)
     have h2:=a2A (E6 E) hM typ x f fs (path++[key]) s.step
     have h3:=a2A (a0i E) hC typ x f fs (path++[key]) s.step
     revert h1 h2 h3
     generalize y8 E V typ x f fs (path++[key]) s.step=r
     obtain ⟨⟨y,ok⟩,s2⟩:=r
     intro h1 h2 h3
     dsimp only at h1 h2 h3 ⊢
     have h2:s.step.steps≤s2.steps:=h2
     have h3:s2.steps≤5001:=h3 (by omega)
     split
     · refine a3o hE hV hM hC typ hx path gs (ks++[key]) (ls++[y]) s2 (fun u hu=>?_) (by simp; omega) (by simp; omega) h3
       rcases List.mem_append.1 hu with hu|hu
       · exact ha u hu
       · simp at hu; subst hu; exact h1
     · exact Val.none_fin
   · exact Val.none_fin
theorem b3w (hE:E.Fine):∀ n,b1m (valF E n)
 | 0=>fun t v fs path s hv hs=>Val.none_fin
 | n+1=>fun t v fs path s hv hs=>by
  have ih:=b3w hE n
  have hM:=P8 (E6 E) n
  have hC:=P8 (a0i E) n
  rw [valF.eq_def]
  dsimp only
  split
  · exact hv
  cases t with
  | wrap u b =>
   dsimp only
   split
   · exact a8f (E:=E) ih hM hC u fs path _ _ _ s hv.vals (by simp) (Nat.zero_le _) hs
   · exact Val.none_fin
  | base nm b =>
   dsimp only
   split
   · split
     · exact hv
     · exact Val.none_fin
   split
   · cases hg:Z5 E.es v.text with
     | none=>exact Val.none_fin
     | some x =>
      dsimp only
      split
      · have h1:=a3o hE ih hM hC x.t (hE.vals x (a2v hg).1) path (E.grp x.t (l7 fs)) [] [] (E.know s nm) (by simp) (Nat.zero_le _) (Nat.zero_le _) (by rw [C0]; exact hs)
        revert h1
        generalize A0 E (valF E n) x.t x path (E.grp x.t (l7 fs)) [] [] (E.know s nm)=r
        obtain ⟨⟨y,ok⟩,s2⟩:=r
        exact id
      · exact Val.none_fin
   · exact Val.none_fin
end
end Go.Cb.CodeA
