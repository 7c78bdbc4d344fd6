import Derived.Test.YtbibkdncfclnbaaGreatDoorXs1
import Derived.Test.YtbibkdncfclnbaaGreatDoorC6
set_option maxRecDepth 20000
set_option linter.unusedSimpArgs false
set_option linter.unusedVariables false
namespace Go.Cb.CodeA
open Go Go.Cb
/-! what telling does to how it stands -/
/-- what holds from one stand to a later one -/
structure Steady (E:REnv) (R:RS→RS→Prop):Prop where
 refl:∀ s,R s s
 trans:∀ {a b c},R a b→R b c→R a c
 step:∀ s,R s s.step
 prob:∀ s p e,R s (s.prob p e)
 know:∀ s n,R s (E.know s n)
def Inv (R:RS→RS→Prop) (V:VF):Prop:=∀ t v fs path s,R s (V t v fs path s).2
section
variable {E:REnv} {R:RS→RS→Prop}
theorem a0y (hR:Steady E R) {V:VF} (hV:Inv R V) (t:TRef) (v:Val) (fs:List Sel) (path:List (List Nat)) (s:RS):R s (y8 V t v fs path s).2:=by
 have h:=hV t v fs path s
 unfold y8
 revert h
 generalize V t v fs path s=r
 obtain ⟨out,s2⟩:=r
 intro h
 dsimp only at h ⊢
 split
 · dsimp only
   split
   · exact hR.trans h (hR.prob _ _ _)
   · exact h
 · exact h
theorem a2b (hR:Steady E R) {V:VF} (hV:Inv R V) (t:TRef) (fs:List Sel) (path:List (List Nat)):∀ (l:List Val) (i:Nat) (acc:List Val) (s:RS),R s (I1 V t fs path l i acc s).2
 | [],i,acc,s=>hR.refl s
 | x::xs,i,acc,s=>by
  unfold I1
  have h0:=hR.step s
  split
  · have h1:=a0y hR hV t x fs (path++[H9 (i:Int)]) s.step
    revert h1
    generalize y8 V t x fs (path++[H9 (i:Int)]) s.step=r
    obtain ⟨⟨y,ok⟩,s2⟩:=r
    intro h1
    dsimp only at h1 ⊢
    split
    · exact hR.trans (hR.trans h0 h1) (a2b hR hV t fs path xs (i+1) _ s2)
    · exact hR.trans h0 h1
  · exact h0
theorem b5U (hR:Steady E R) {V:VF} (hV:Inv R V) (typ:List Nat) (x:Ent) (f:FDef) (fs:List Sel) (path:List (List Nat)) (s:RS):R s (E1 E V typ x f fs path s).2:=by
 unfold E1
 split
 · exact hR.refl s
 split
 · exact a0y hR hV _ _ _ _ _
 split
 · exact hR.trans (hR.know s _) (a0y hR hV _ _ _ _ _)
 · generalize E.args f (a7g fs)=r
   obtain ⟨a,e⟩:=r
   dsimp only
   split
   · exact hR.trans (hR.know s _) (a0y hR hV _ _ _ _ _)
   · exact hR.trans (hR.know s _) (hR.prob _ _ _)
theorem a27 (hR:Steady E R) {V:VF} (hV:Inv R V) (typ:List Nat) (x:Ent) (path:List (List Nat)):∀ (gs:List (List Nat×List Sel)) (ks:List (List Nat)) (ls:List Val) (s:RS),R s (D6 E V typ x path gs ks ls s).2
 | [],ks,ls,s=>hR.refl s
 | (key,fs)::gs,ks,ls,s=>by
  unfold D6
  cases hf:E.fld typ (U0 fs) with
  | none=>exact a27 hR hV typ x path gs ks ls s
  | some f =>
   dsimp only
   have h0:=hR.step s
   split
   · have h1:=b5U hR hV typ x f fs (path++[key]) s.step
     revert h1
     generalize E1 E V typ x f fs (path++[key]) s.step=r
     obtain ⟨⟨y,ok⟩,s2⟩:=r
     intro h1
     dsimp only at h1 ⊢
     split
     · exact hR.trans (hR.trans h0 h1) (a27 hR hV typ x path gs _ _ s2)
     · exact hR.trans h0 h1
   · exact h0
theorem U4 (hR:Steady E R):∀ n,Inv R (valF E n)
 | 0=>fun t v fs path s=>hR.refl s
 | n+1=>fun t v fs path s=>by
  rw [valF.eq_def]
  dsimp only
  split
  · exact hR.refl s
  cases t with
  | wrap u b =>
   dsimp only
   split
   · exact a2b hR (U4 hR n) u fs path _ _ _ s
   · exact hR.prob _ _ _
  | base nm b =>
   dsimp only
   split
   · split
     · exact hR.refl s
     · exact hR.prob _ _ _
   split
   · cases hg:R6 E.es v.text with
     | none=>exact hR.know s nm
     | some x =>
      dsimp only
      split
      · have h1:=hR.trans (hR.know s nm) (a27 hR (U4 hR n) x.t x path (E.grp x.t (y9 fs)) [] [] (E.know s nm))
        revert h1
        generalize D6 E (valF E n) x.t x path (E.grp x.t (y9 fs)) [] [] (E.know s nm)=r
        obtain ⟨⟨y,ok⟩,s2⟩:=r
        exact id
      · exact hR.know s nm
   · exact hR.prob _ _ _
end
theorem b3C (E:REnv) (s:RS) (n:List Nat):(E.know s n).steps=s.steps:=by unfold REnv.know; split <;> rfl
theorem c3p (s:RS):s.steps≤s.step.steps:=by unfold RS.step; dsimp only; split <;> omega
def b0u (s s2:RS):Prop:=s.steps≤s2.steps
theorem I9 (E:REnv):Steady E b0u:=⟨fun _=>Nat.le_refl _,Nat.le_trans,c3p,fun _ _ _=>Nat.le_refl _,fun s n=>Nat.le_of_eq (b3C E s n).symm⟩
def c4N (s s2:RS):Prop:=s2.part=s.part
theorem a3E {E:REnv} (h:∀ n,E.knows n=true):Steady E c4N:=⟨fun _=>rfl,fun h1 h2=>h2.trans h1,fun _=>rfl,fun _ _ _=>rfl,fun s n=>by unfold REnv.know; rw [if_pos (h n)]; rfl⟩
/-! the same told at another path, behind other problems and more steps -/
/-- surroundings that answer the same -/
structure REnv.Sim (E E':REnv):Prop where
 es:E'.es=E.es
 fld:E'.fld=E.fld
 grp:E'.grp=E.grp
 poss:E'.poss=E.poss
 leaf:E'.leaf=E.leaf
 fits:E'.fits=E.fits
 knows:E'.knows=E.knows
 args:E'.args=E.args
theorem REnv.Sim.refl (E:REnv):E.Sim E:=⟨rfl,rfl,rfl,rfl,rfl,rfl,rfl,rfl⟩
abbrev Pth:=List (List Nat)
def c2z (p:Pth) (x:Pth×Int):Pth×Int:=(p++x.1,x.2)
section
variable (d:Nat) (A B:List (Pth×Int)) (p q:Pth)
structure RelS (s s':RS):Prop where
 ps:∃ l:List (Pth×Int),s.ps=A++l.map (c2z p)∧s'.ps=B++l.map (c2z q)
 part:s'.part=s.part
 steps:s'.steps=s.steps+d
/-- there is room for what is told -/
def Room (s:RS):Prop:=d=0∨s.steps≤5000
end
section
variable {d:Nat} {A B:List (Pth×Int)} {p q:Pth}
theorem Room.le {s s2:RS} (h:Room d s2) (hl:s.steps≤s2.steps):Room d s:=h.imp id fun h=>Nat.le_trans hl h
theorem RelS.prob {s s':RS} (h:RelS d A B p q s s') (r:Pth) (e:Int):RelS d A B p q (s.prob (p++r) e) (s'.prob (q++r) e):=by
 obtain ⟨l,h1,h2⟩:=h.ps
 refine ⟨⟨l++[(r,e)],?_,?_⟩,h.part,h.steps⟩
 · show s.ps++_=_
   rw [h1,List.map_append,List.append_assoc]; rfl
 · show s'.ps++_=_
   rw [h2,List.map_append,List.append_assoc]; rfl
theorem RelS.step {s s':RS} (h:RelS d A B p q s s') (hr:Room d s'.step):RelS d A B p q s.step s'.step∧(s.step.steps≤5000 ↔ s'.step.steps≤5000):=by
 have hs:=h.steps
 have e1:s.step.steps=if s.steps≤5000 then s.steps+1 else s.steps:=rfl
 have e2:s'.step.steps=if s'.steps≤5000 then s'.steps+1 else s'.steps:=rfl
 have hd:s'.step.steps=s.step.steps+d:=by
  rcases hr with rfl|hr
  · rw [e1,e2,hs]; simp only [Nat.add_zero]
  · rw [e2] at hr
    rw [e1,e2,hs]
    rw [hs] at hr
    by_cases c:s.steps+d≤5000
    · rw [if_pos c,if_pos (by omega)]; omega
    · rw [if_neg c] at hr; omega
 refine ⟨⟨h.ps,h.part,hd⟩,?_⟩
 rcases hr with rfl|hr
 · rw [hd,Nat.add_zero]
 · exact ⟨fun _=>hr,fun _=>by omega⟩
theorem RelS.know {E E':REnv} (hE:E.Sim E') {s s':RS} (h:RelS d A B p q s s') (n:List Nat):RelS d A B p q (E.know s n) (E'.know s' n):=by
 unfold REnv.know
 rw [hE.knows]
 split
 · exact h
 · exact ⟨h.ps,rfl,h.steps⟩
end
end Go.Cb.CodeA
set_option maxRecDepth 20000
set_option linter.unusedSimpArgs false
set_option linter.unusedVariables false
namespace Go.Cb.CodeA
open Go Go.Cb
/-! how many steps telling takes, where lists are short -/
mutual
def Sel.cost:Sel→Nat
 | .mk k _ _ _ _ _ sub=>if eqI k 1 then 13+12*H7 sub else H7 sub
def H7:List Sel→Nat
 | []=>0
 | x::xs=>x.cost+H7 xs
end
theorem H0 (x:Sel) (l:List Sel):H7 (x::l)=x.cost+H7 l:=by rw [H7]
theorem c0I (k:Int) (al nm on:List Nat) (as:List Arg) (ds:List Dir) (sub:List Sel):(Sel.mk k al nm on as ds sub).cost=if eqI k 1 then 13+12*H7 sub else H7 sub:=by rw [Sel.cost]
theorem a7Y:∀ a b:List Sel,H7 (a++b)=H7 a+H7 b
 | [],b=>by simp [H7]
 | x::a,b=>by rw [List.cons_append,H0,H0,a7Y a b]; omega
def b9f:List (List Nat×List Sel)→Nat
 | []=>0
 | g::gs=>13+12*H7 (y9 g.2)+b9f gs
def Few (v:Val):Prop:=v.vals.length≤12∧∀ u∈v.vals,u.vals=[]
theorem Few.flat {v:Val} (h:v.vals=[]):Few v:=⟨by rw [h]; simp,by rw [h]; simp⟩
structure REnv.Little (E:REnv):Prop where
 es:E.es.length≤12
 vals:∀ e∈E.es,∀ v∈e.ls,Few v
 grp:∀ typ l,b9f (E.grp typ l)≤H7 l
theorem b1x (s:RS):s.step.steps≤s.steps+1:=by unfold RS.step; dsimp only; split <;> omega
section
variable {E:REnv} {V:VF}
end
def Sel.kd:Sel→Int|.mk k _ _ _ _ _ _=>k
theorem FRun.cost {K:Cfg} (hK:K.frags=[]) {l:List Sel} {s:List (List Nat)} {F:List Sel} {s':List (List Nat)} (h:FRun K l s F s'):(∀ x∈F,eqI x.kd 1=true)∧H7 F≤H7 l:=by
 induction h with
 | nil s=>exact ⟨by simp,Nat.le_refl _⟩
 | skipC _ _ ih=>rw [H0]; exact ⟨ih.1,by omega⟩
 | fieldC _ b _ ih =>
  rw [H0,H0]
  exact ⟨fun x hx=>by rcases List.mem_cons.1 hx with rfl|hx; exact b; exact ih.1 x hx,by omega⟩
 | noneC _ _ _ _ _ ih=>rw [H0]; exact ⟨ih.1,by omega⟩
 | otherC _ _ _ g1 g2 _ _ _ ih=>rw [hK] at g2; simp at g2
 | spreadC _ _ _ g1 g2 _ _ _ _ ih ih2=>rw [hK] at g2; simp at g2
 | inNoC _ _ _ _ _ ih=>rw [H0]; exact ⟨ih.1,by omega⟩
 | inlC _ b _ _ _ _ ih ih2 =>
  rw [H0,a7Y,c0I,b]
  refine ⟨fun x hx=>?_,?_⟩
  · rcases List.mem_append.1 hx with hx|hx
    · exact ih.1 x hx
    · exact ih2.1 x hx
  · have:=ih.2; have:=ih2.2
    simp only [Bool.false_eq_true,if_false]
    omega
end Go.Cb.CodeA
set_option maxRecDepth 20000
set_option linter.unusedSimpArgs false
set_option linter.unusedVariables false
namespace Go.Cb.CodeA
open Go Go.Cb
/-! what is told is no more than there may be -/
theorem Val.Fin.vals {v:Val} (h:v.Fin):∀ u∈v.vals,u.Fin:=by cases h with|mk k n s ks ls hk hl h=>exact h
structure REnv.Fine (E:REnv):Prop where
 es:E.es.length≤100000
 vals:∀ e∈E.es,∀ v∈e.ls,v.Fin
theorem b51 {s:RS} (h:s.step.steps≤5000):s.step.steps=s.steps+1:=by
 unfold RS.step at h ⊢
 dsimp only at h ⊢
 split
 · rfl
 · rename_i c; rw [if_neg c] at h; omega
section
variable {E:REnv} {V:VF}
end
end Go.Cb.CodeA
