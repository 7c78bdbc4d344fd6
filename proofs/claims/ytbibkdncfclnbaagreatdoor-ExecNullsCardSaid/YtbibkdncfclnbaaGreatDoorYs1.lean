import Derived.Test.YtbibkdncfclnbaaGreatDoorXs1
import Derived.Test.YtbibkdncfclnbaaGreatDoorC6
set_option maxRecDepth 20000
set_option linter.unusedSimpArgs false
set_option linter.unusedVariables false
namespace Go.Cb.CodeA
open Go Go.Cb
/-! what telling does to how it stands -/
/-- what holds from one stand to a later one -/
structure Steady (E:REnv) (R:RS→RS→Prop):Prop where
 refl:∀ s,R s s
 trans:∀ {a b c},R a b→R b c→R a c
 step:∀ s,R s s.step
 prob:∀ s p e,R s (s.prob p e)
 know:∀ s n,R s (E.know s n)
def Inv (R:RS→RS→Prop) (V:VF):Prop:=∀ t v fs path s,R s (V t v fs path s).2
section
variable {E:REnv} {R:RS→RS→Prop}
theorem W3 (hR:Steady E R) {V:VF} (hV:Inv R V) (t:TRef) (v:Val) (fs:List Sel) (path:List (List Nat)) (s:RS):R s (n5 V t v fs path s).2:=by
 have h:=hV t v fs path s
 unfold n5
 revert h
 generalize V t v fs path s=r
 obtain ⟨out,s2⟩:=r
 intro h
 dsimp only at h ⊢
 split
 · dsimp only
   split
   · exact hR.trans h (hR.prob _ _ _)
   · exact h
 · exact h
theorem a9e (hR:Steady E R) {V:VF} (hV:Inv R V) (t:TRef) (fs:List Sel) (path:List (List Nat)):∀ (l:List Val) (i:Nat) (acc:List Val) (s:RS),R s (E4 V t fs path l i acc s).2
 | [],i,acc,s=>hR.refl s
 | x::xs,i,acc,s=>by
  unfold E4
  have h0:=hR.step s
  split
  · have h1:=W3 hR hV t x fs (path++[D4 (i:Int)]) s.step
    revert h1
    generalize n5 V t x fs (path++[D4 (i:Int)]) s.step=r
    obtain ⟨⟨y,ok⟩,s2⟩:=r
    intro h1
    dsimp only at h1 ⊢
    split
    · exact hR.trans (hR.trans h0 h1) (a9e hR hV t fs path xs (i+1) _ s2)
    · exact hR.trans h0 h1
  · exact h0
theorem a2U (hR:Steady E R) {V:VF} (hV:Inv R V) (typ:List Nat) (x:Ent) (f:FDef) (fs:List Sel) (path:List (List Nat)) (s:RS):R s (r5 E V typ x f fs path s).2:=by
 unfold r5
 split
 · exact hR.refl s
 split
 · exact W3 hR hV _ _ _ _ _
 split
 · exact hR.trans (hR.know s _) (W3 hR hV _ _ _ _ _)
 · generalize E.args f (a0w fs)=r
   obtain ⟨a,e⟩:=r
   dsimp only
   split
   · exact hR.trans (hR.know s _) (W3 hR hV _ _ _ _ _)
   · exact hR.trans (hR.know s _) (hR.prob _ _ _)
theorem a3f (hR:Steady E R) {V:VF} (hV:Inv R V) (typ:List Nat) (x:Ent) (path:List (List Nat)):∀ (gs:List (List Nat×List Sel)) (ks:List (List Nat)) (ls:List Val) (s:RS),R s (r8 E V typ x path gs ks ls s).2
 | [],ks,ls,s=>hR.refl s
 | (key,fs)::gs,ks,ls,s=>by
  unfold r8
  cases hf:E.fld typ (H7 fs) with
  | none=>exact a3f hR hV typ x path gs ks ls s
  | some f =>
   dsimp only
   have h0:=hR.step s
   split
   · have h1:=a2U hR hV typ x f fs (path++[key]) s.step
     revert h1
     generalize r5 E V typ x f fs (path++[key]) s.step=r
     obtain ⟨⟨y,ok⟩,s2⟩:=r
     intro h1
     dsimp only at h1 ⊢
     split
     · exact hR.trans (hR.trans h0 h1) (a3f hR hV typ x path gs _ _ s2)
     · exact hR.trans h0 h1
   · exact h0
theorem J7 (hR:Steady E R):∀ n,Inv R (valF E n)
 | 0=>fun t v fs path s=>hR.refl s
 | n+1=>fun t v fs path s=>by
  rw [valF.eq_def]
  dsimp only
  split
  · exact hR.refl s
  cases t with
  | wrap u b =>
   dsimp only
   split
   · exact a9e hR (J7 hR n) u fs path _ _ _ s
   · exact hR.prob _ _ _
  | base nm b =>
   dsimp only
   split
   · split
     · exact hR.refl s
     · exact hR.prob _ _ _
   split
   · cases hg:W5 E.es v.text with
     | none=>exact hR.know s nm
     | some x =>
      dsimp only
      split
      · have h1:=hR.trans (hR.know s nm) (a3f hR (J7 hR n) x.t x path (E.grp x.t (m3 fs)) [] [] (E.know s nm))
        revert h1
        generalize r8 E (valF E n) x.t x path (E.grp x.t (m3 fs)) [] [] (E.know s nm)=r
        obtain ⟨⟨y,ok⟩,s2⟩:=r
        exact id
      · exact hR.know s nm
   · exact hR.prob _ _ _
end
theorem B9 (E:REnv) (s:RS) (n:List Nat):(E.know s n).steps=s.steps:=by unfold REnv.know; split <;> rfl
theorem c2X (E:REnv) (s:RS) (n:List Nat):(E.know s n).ps=s.ps:=by unfold REnv.know; split <;> rfl
theorem c6f (s:RS):s.steps≤s.step.steps:=by unfold RS.step; dsimp only; split <;> omega
def a5I (s s2:RS):Prop:=s.steps≤s2.steps
theorem J6 (E:REnv):Steady E a5I:=⟨fun _=>Nat.le_refl _,Nat.le_trans,c6f,fun _ _ _=>Nat.le_refl _,fun s n=>Nat.le_of_eq (B9 E s n).symm⟩
def b1l (s s2:RS):Prop:=s.ps.length≤s2.ps.length
theorem a7J (E:REnv):Steady E b1l:=⟨fun _=>Nat.le_refl _,Nat.le_trans,fun _=>Nat.le_refl _,fun s p e=>by show s.ps.length≤(s.ps++[(p,e)]).length; simp,fun s n=>by unfold b1l; rw [c2X]; exact Nat.le_refl _⟩
def c47 (s s2:RS):Prop:=s2.part=s.part
theorem a3L {E:REnv} (h:∀ n,E.knows n=true):Steady E c47:=⟨fun _=>rfl,fun h1 h2=>h2.trans h1,fun _=>rfl,fun _ _ _=>rfl,fun s n=>by unfold REnv.know; rw [if_pos (h n)]; rfl⟩
theorem a0l (V:VF) (t:TRef) (v:Val) (fs:List Sel) (path:List (List Nat)) (s:RS):(n5 V t v fs path s).2.steps=(V t v fs path s).2.steps:=by
 unfold n5
 generalize V t v fs path s=r
 obtain ⟨out,s2⟩:=r
 dsimp only
 split
 · dsimp only
   split <;> rfl
 · rfl

/-! the same told at another path, behind other problems and more steps -/
/-- surroundings that answer the same -/
structure REnv.Sim (E E':REnv):Prop where
 es:E'.es=E.es
 fld:E'.fld=E.fld
 grp:E'.grp=E.grp
 poss:E'.poss=E.poss
 leaf:E'.leaf=E.leaf
 fits:E'.fits=E.fits
 knows:E'.knows=E.knows
 args:E'.args=E.args
theorem REnv.Sim.refl (E:REnv):E.Sim E:=⟨rfl,rfl,rfl,rfl,rfl,rfl,rfl,rfl⟩
abbrev Pth:=List (List Nat)
def c5o (p:Pth) (x:Pth×Int):Pth×Int:=(p++x.1,x.2)
section
variable (d:Nat) (A B:List (Pth×Int)) (p q:Pth)
structure RelS (s s':RS):Prop where
 ps:∃ l:List (Pth×Int),s.ps=A++l.map (c5o p)∧s'.ps=B++l.map (c5o q)
 part:s'.part=s.part
 steps:s'.steps=s.steps+d
/-- there is room for what is told -/
def Room (s:RS):Prop:=d=0∨s.steps≤5000
end
section
variable {d:Nat} {A B:List (Pth×Int)} {p q:Pth}
theorem Room.le {s s2:RS} (h:Room d s2) (hl:s.steps≤s2.steps):Room d s:=h.imp id fun h=>Nat.le_trans hl h
theorem RelS.prob {s s':RS} (h:RelS d A B p q s s') (r:Pth) (e:Int):RelS d A B p q (s.prob (p++r) e) (s'.prob (q++r) e):=by
 obtain ⟨l,h1,h2⟩:=h.ps
 refine ⟨⟨l++[(r,e)],?_,?_⟩,h.part,h.steps⟩
 · show s.ps++_=_
   rw [h1,List.map_append,List.append_assoc]; rfl
 · show s'.ps++_=_
   rw [h2,List.map_append,List.append_assoc]; rfl
theorem RelS.step {s s':RS} (h:RelS d A B p q s s') (hr:Room d s'.step):RelS d A B p q s.step s'.step∧(s.step.steps≤5000 ↔ s'.step.steps≤5000):=by
 have hs:=h.steps
 have e1:s.step.steps=if s.steps≤5000 then s.steps+1 else s.steps:=rfl
 have e2:s'.step.steps=if s'.steps≤5000 then s'.steps+1 else s'.steps:=rfl
 have hd:s'.step.steps=s.step.steps+d:=by
  rcases hr with rfl|hr
  · rw [e1,e2,hs]; simp only [Nat.add_zero]
  · rw [e2] at hr
    rw [e1,e2,hs]
    rw [hs] at hr
    by_cases c:s.steps+d≤5000
    · rw [if_pos c,if_pos (by omega)]; omega
    · rw [if_neg c] at hr; omega
 refine ⟨⟨h.ps,h.part,hd⟩,?_⟩
 rcases hr with rfl|hr
 · rw [hd,Nat.add_zero]
 · exact ⟨fun _=>hr,fun _=>by omega⟩
theorem RelS.know {E E':REnv} (hE:E.Sim E') {s s':RS} (h:RelS d A B p q s s') (n:List Nat):RelS d A B p q (E.know s n) (E'.know s' n):=by
 unfold REnv.know
 rw [hE.knows]
 split
 · exact h
 · exact ⟨h.ps,rfl,h.steps⟩
end
end Go.Cb.CodeA
set_option maxRecDepth 20000
set_option linter.unusedSimpArgs false
set_option linter.unusedVariables false
namespace Go.Cb.CodeA
open Go Go.Cb
/-! how many steps telling takes, where lists are short -/
mutual
def Sel.cost:Sel→Nat
 | .mk k _ _ _ _ _ sub=>if eqI k 1 then 13+12*s9 sub else s9 sub
def s9:List Sel→Nat
 | []=>0
 | x::xs=>x.cost+s9 xs
end
theorem F6 (x:Sel) (l:List Sel):s9 (x::l)=x.cost+s9 l:=by rw [s9]
theorem a7v (k:Int) (al nm on:List Nat) (as:List Arg) (ds:List Dir) (sub:List Sel):(Sel.mk k al nm on as ds sub).cost=if eqI k 1 then 13+12*s9 sub else s9 sub:=by rw [Sel.cost]
theorem a0U:∀ a b:List Sel,s9 (a++b)=s9 a+s9 b
 | [],b=>by simp [s9]
 | x::a,b=>by rw [List.cons_append,F6,F6,a0U a b]; omega
def M9:List (List Nat×List Sel)→Nat
 | []=>0
 | g::gs=>13+12*s9 (m3 g.2)+M9 gs
def Few (v:Val):Prop:=v.vals.length≤12∧∀ u∈v.vals,u.vals=[]
theorem Few.flat {v:Val} (h:v.vals=[]):Few v:=⟨by rw [h]; simp,by rw [h]; simp⟩
structure REnv.Little (E:REnv):Prop where
 es:E.es.length≤12
 vals:∀ e∈E.es,∀ v∈e.ls,Few v
 grp:∀ typ l,M9 (E.grp typ l)≤s9 l
def a9z (V:VF):Prop:=∀ t v fs path s,(v.vals=[]→(V t v fs path s).2.steps≤s.steps+s9 (m3 fs))∧(Few v→(V t v fs path s).2.steps≤s.steps+12*(1+s9 (m3 fs)))
theorem b18 (s:RS):s.step.steps≤s.steps+1:=by unfold RS.step; dsimp only; split <;> omega
section
variable {E:REnv} {V:VF}
theorem a2e (hV:a9z V) (t:TRef) (fs:List Sel) (path:Pth):∀ (l:List Val) (i:Nat) (acc:List Val) (s:RS),(∀ u∈l,u.vals=[])→(E4 V t fs path l i acc s).2.steps≤s.steps+l.length*(1+s9 (m3 fs))
 | [],i,acc,s,_=>by simp [E4]
 | x::xs,i,acc,s,h=>by
  have h0:=b18 s
  have h1:=(hV t x fs (path++[D4 (i:Int)]) s.step).1 (h x (by simp))
  rw [← a0l] at h1
  unfold E4
  rw [List.length_cons,Nat.succ_mul]
  split
  · revert h1
    generalize n5 V t x fs (path++[D4 (i:Int)]) s.step=r
    obtain ⟨⟨y,ok⟩,s2⟩:=r
    intro h1
    dsimp only at h1 ⊢
    split
    · have:=a2e hV t fs path xs (i+1) (acc++[y]) s2 (fun u hu=>h u (by simp [hu]))
      omega
    · dsimp only; omega
  · dsimp only; omega
theorem c1F {x:Ent} (hx:∀ v∈x.ls,Few v) (n:List Nat):Few (atK 6 x.ks x.ls n):=by
 unfold atK
 rw [if_pos (show eqI 6 6=true from rfl)]
 cases pI (fun y=>eqN n y) x.ks with
 | none=>exact Few.flat rfl
 | some i =>
  dsimp only
  cases hi:x.ls[i]? with
  | none=>exact Few.flat rfl
  | some v=>exact hx v (List.mem_of_getElem? hi)
theorem b4D (hE:E.Little) (hV:a9z V) (typ:List Nat) (x:Ent) (hx:∀ v∈x.ls,Few v) (f:FDef) (fs:List Sel) (path:Pth) (s:RS):(r5 E V typ x f fs path s).2.steps≤s.steps+12*(1+s9 (m3 fs)):=by
 unfold r5
 split
 · dsimp only; omega
 split
 · rw [a0l]; exact (hV _ _ _ _ _).2 (c1F hx _)
 split
 · rw [a0l]
   have h:=(hV f.t (.mk 5 0 [] [] ((E.es.filter fun y=>j5 (E.poss f.t.bs) y.t).map fun y=>I4 y.id)) fs path (E.know s f.t.bs)).2 ⟨?_,?_⟩
   · rw [B9] at h; exact h
   · show ((E.es.filter fun y=>j5 (E.poss f.t.bs) y.t).map fun y=>I4 y.id).length≤12
     rw [List.length_map]
     exact Nat.le_trans (List.length_filter_le _ _) hE.es
   · intro u hu
     obtain ⟨y,_,rfl⟩:=List.mem_map.1 (show u∈(E.es.filter fun y=>j5 (E.poss f.t.bs) y.t).map fun y=>I4 y.id from hu)
     rfl
 · generalize E.args f (a0w fs)=r
   obtain ⟨a,e⟩:=r
   dsimp only
   split
   · rw [a0l]
     have h:=(hV f.t (I4 (atK a.kind a.names a.vals idN).text) fs path (E.know s f.t.bs)).2 (Few.flat rfl)
     rw [B9] at h
     exact h
   · show (E.know s f.t.bs).steps≤_
     rw [B9]; omega
theorem a10 (hE:E.Little) (hV:a9z V) (typ:List Nat) (x:Ent) (hx:∀ v∈x.ls,Few v) (path:Pth):∀ (gs:List (List Nat×List Sel)) (ks:List (List Nat)) (ls:List Val) (s:RS),(r8 E V typ x path gs ks ls s).2.steps≤s.steps+M9 gs
 | [],ks,ls,s=>by simp [r8,M9]
 | (key,fs)::gs,ks,ls,s=>by
  unfold r8 M9
  cases E.fld typ (H7 fs) with
  | none =>
   have:=a10 hE hV typ x hx path gs ks ls s
   dsimp only
   omega
  | some f =>
   dsimp only
   have h0:=b18 s
   split
   · have h1:=b4D hE hV typ x hx f fs (path++[key]) s.step
     revert h1
     generalize r5 E V typ x f fs (path++[key]) s.step=r
     obtain ⟨⟨y,ok⟩,s2⟩:=r
     intro h1
     dsimp only at h1 ⊢
     split
     · have:=a10 hE hV typ x hx path gs (ks++[key]) (ls++[y]) s2
       omega
     · dsimp only; omega
   · dsimp only; omega
theorem a9X (hE:E.Little):∀ n,a9z (valF E n)
 | 0=>fun t v fs path s=>⟨fun _=>by simp [valF],fun _=>by simp [valF]⟩
 | n+1=>fun t v fs path s=>by
  have ih:=a9X hE n
  have main:(v.vals=[]→(valF E (n+1) t v fs path s).2.steps≤s.steps+s9 (m3 fs))∧(Few v→(valF E (n+1) t v fs path s).2.steps≤s.steps+12*(1+s9 (m3 fs))):=by
   rw [valF.eq_def]
   dsimp only
   split
   · exact ⟨fun _=>Nat.le_add_right _ _,fun _=>Nat.le_add_right _ _⟩
   cases t with
   | wrap u b =>
    dsimp only
    split
    · refine ⟨fun h=>?_,fun h=>?_⟩
      · have:=a2e ih u fs path v.vals 0 [] s (by rw [h]; simp)
        rw [h] at this ⊢
        simp only [List.length_nil,Nat.zero_mul] at this
        omega
      · have:=a2e ih u fs path v.vals 0 [] s h.2
        have h2:=Nat.mul_le_mul_right (1+s9 (m3 fs)) h.1
        omega
    · exact ⟨fun _=>Nat.le_add_right _ _,fun _=>Nat.le_add_right _ _⟩
   | base nm b =>
    dsimp only
    split
    · split
      · exact ⟨fun _=>Nat.le_add_right _ _,fun _=>Nat.le_add_right _ _⟩
      · exact ⟨fun _=>Nat.le_add_right _ _,fun _=>Nat.le_add_right _ _⟩
    split
    · cases hg:W5 E.es v.text with
      | none=>dsimp only; rw [B9]; exact ⟨fun _=>Nat.le_add_right _ _,fun _=>Nat.le_add_right _ _⟩
      | some x =>
       dsimp only
       split
       · have h1:=a10 hE ih x.t x (hE.vals x (a03 hg).1) path (E.grp x.t (m3 fs)) [] [] (E.know s nm)
         have h2:=hE.grp x.t (m3 fs)
         rw [B9] at h1
         revert h1
         generalize r8 E (valF E n) x.t x path (E.grp x.t (m3 fs)) [] [] (E.know s nm)=r
         obtain ⟨⟨y,ok⟩,s2⟩:=r
         intro h1
         dsimp only at h1 ⊢
         exact ⟨fun _=>by omega,fun _=>by omega⟩
       · rw [B9]; exact ⟨fun _=>Nat.le_add_right _ _,fun _=>Nat.le_add_right _ _⟩
    · exact ⟨fun _=>Nat.le_add_right _ _,fun _=>Nat.le_add_right _ _⟩
  exact main
end
def Sel.kd:Sel→Int|.mk k _ _ _ _ _ _=>k
theorem a7S (x:Sel) (hx:eqI x.kd 1=true):∀ gs,M9 (D0 gs x)≤M9 gs+x.cost
 | []=>by
  obtain ⟨k,al,nm,on,as,ds,sub⟩:=x
  have hx:eqI k 1=true:=hx
  rw [a7v,if_pos hx]
  simp [D0,M9,m3,Sel.sub]
 | g::gs=>by
  have ih:=a7S x hx gs
  obtain ⟨k,al,nm,on,as,ds,sub⟩:=x
  have hx:eqI k 1=true:=hx
  rw [a7v,if_pos hx] at ih ⊢
  rw [D0]
  split
  · simp only [M9,m3,List.flatMap_append,a0U]
    simp only [List.flatMap_cons,List.flatMap_nil,List.append_nil,Sel.sub]
    omega
  · simp only [M9]; omega
theorem b7D:∀ F:List Sel,(∀ x∈F,eqI x.kd 1=true)→M9 (H3 F)≤s9 F:=by
 refine a0x (by simp [H3,M9]) fun F x ih=>?_
 intro h
 rw [a2z,a0U,F6]
 have h1:=a7S x (h x (by simp)) (H3 F)
 have h2:=ih fun y hy=>h y (by simp [hy])
 simp only [s9]
 omega
theorem FRun.cost {K:Cfg} (hK:K.frags=[]) {l:List Sel} {s:List (List Nat)} {F:List Sel} {s':List (List Nat)} (h:FRun K l s F s'):(∀ x∈F,eqI x.kd 1=true)∧s9 F≤s9 l:=by
 induction h with
 | nil s=>exact ⟨by simp,Nat.le_refl _⟩
 | skipC _ _ ih=>rw [F6]; exact ⟨ih.1,by omega⟩
 | fieldC _ b _ ih =>
  rw [F6,F6]
  exact ⟨fun x hx=>by rcases List.mem_cons.1 hx with rfl|hx; exact b; exact ih.1 x hx,by omega⟩
 | noneC _ _ _ _ _ ih=>rw [F6]; exact ⟨ih.1,by omega⟩
 | otherC _ _ _ g1 g2 _ _ _ ih=>rw [hK] at g2; simp at g2
 | spreadC _ _ _ g1 g2 _ _ _ _ ih ih2=>rw [hK] at g2; simp at g2
 | inNoC _ _ _ _ _ ih=>rw [F6]; exact ⟨ih.1,by omega⟩
 | inlC _ b _ _ _ _ ih ih2 =>
  rw [F6,a0U,a7v,b]
  refine ⟨fun x hx=>?_,?_⟩
  · rcases List.mem_append.1 hx with hx|hx
    · exact ih.1 x hx
    · exact ih2.1 x hx
  · have:=ih.2; have:=ih2.2
    simp only [Bool.false_eq_true,if_false]
    omega
end Go.Cb.CodeA
set_option maxRecDepth 20000
set_option linter.unusedSimpArgs false
set_option linter.unusedVariables false
namespace Go.Cb.CodeA
open Go Go.Cb
/-! what is told is no more than there may be -/
def b9D (s s2:RS):Prop:=s.steps≤5001→s2.steps≤5001
theorem a0d (E:REnv):Steady E b9D:=⟨fun _ h=>h,fun h1 h2 h=>h2 (h1 h),fun s h=>by unfold RS.step; dsimp only; split <;> omega,fun _ _ _ h=>h,fun s n h=>by rw [B9]; exact h⟩
theorem Val.none_fin:Val.none.Fin:=.mk _ _ _ _ _ (by decide) (by decide) (by simp)
theorem a7e (k n:Int) (s:List Nat):(Val.mk k n s [] []).Fin:=.mk _ _ _ _ _ (by decide) (by decide) (by simp)
theorem Val.Fin.vals {v:Val} (h:v.Fin):∀ u∈v.vals,u.Fin:=by cases h with|mk k n s ks ls hk hl h=>exact h
structure REnv.Fine (E:REnv):Prop where
 es:E.es.length≤100000
 vals:∀ e∈E.es,∀ v∈e.ls,v.Fin
def a9Q (V:VF):Prop:=∀ t v fs path s,v.Fin→s.steps≤5001→(V t v fs path s).1.Fin
theorem b53 {s:RS} (h:s.step.steps≤5000):s.step.steps=s.steps+1:=by
 unfold RS.step at h ⊢
 dsimp only at h ⊢
 split
 · rfl
 · rename_i c; rw [if_neg c] at h; omega
section
variable {E:REnv} {V:VF}
theorem a1U (hV:a9Q V) (t:TRef) {v:Val} (hv:v.Fin) (fs:List Sel) (path:Pth) {s:RS} (hs:s.steps≤5001):(n5 V t v fs path s).1.1.Fin:=by
 have h:=hV t v fs path s hv hs
 unfold n5
 revert h
 generalize V t v fs path s=r
 obtain ⟨out,s2⟩:=r
 intro h
 dsimp only at h ⊢
 split
 · exact Val.none_fin
 · exact h
theorem a7N {E:REnv} {V:VF} (hV:a9Q V) (hM:Inv a5I V) (hC:Inv b9D V) (t:TRef) (fs:List Sel) (path:Pth):∀ (l:List Val) (i:Nat) (acc:List Val) (s:RS),(∀ u∈l,u.Fin)→(∀ u∈acc,u.Fin)→acc.length≤s.steps→s.steps≤5001→(E4 V t fs path l i acc s).1.Fin
 | [],i,acc,s,_,ha,hl,hs=>by rw [E4]; exact .mk _ _ _ _ _ (by decide) (by omega) ha
 | x::xs,i,acc,s,h,ha,hl,hs=>by
  unfold E4
  split
  · rename_i c
    have hup:=b53 c
    have h1:=a1U hV t (h x (by simp)) fs (path++[D4 (i:Int)]) (s:=s.step) (by omega)
    have h2:=W3 (J6 E) hM t x fs (path++[D4 (i:Int)]) s.step
    have h3:=W3 (a0d E) hC t x fs (path++[D4 (i:Int)]) s.step
    revert h1 h2 h3
    generalize n5 V t x fs (path++[D4 (i:Int)]) s.step=r
    obtain ⟨⟨y,ok⟩,s2⟩:=r
    intro h1 h2 h3
    dsimp only at h1 h2 h3 ⊢
    have h2:s.step.steps≤s2.steps:=h2
    have h3:s2.steps≤5001:=h3 (by omega)
    split
    · refine a7N (E:=E) hV hM hC t fs path xs (i+1) (acc++[y]) s2 (fun u hu=>h u (by simp [hu])) (fun u hu=>?_) (by simp; omega) h3
      rcases List.mem_append.1 hu with hu|hu
      · exact ha u hu
      · simp at hu; subst hu; exact h1
    · exact Val.none_fin
  · exact Val.none_fin
theorem c1z {x:Ent} (hx:∀ v∈x.ls,v.Fin) (n:List Nat):(atK 6 x.ks x.ls n).Fin:=by
 unfold atK
 rw [if_pos (show eqI 6 6=true from rfl)]
 cases pI (fun y=>eqN n y) x.ks with
 | none=>exact Val.none_fin
 | some i =>
  dsimp only
  cases hi:x.ls[i]? with
  | none=>exact Val.none_fin
  | some v=>exact hx v (List.mem_of_getElem? hi)
theorem b74 (hE:E.Fine) (b:List Nat):(Val.mk 5 0 [] [] ((E.es.filter fun y=>j5 (E.poss b) y.t).map fun y=>I4 y.id)).Fin:=by
 refine .mk _ _ _ _ _ (by decide) ?_ fun u hu=>?_
 · rw [List.length_map]
   have:=List.length_filter_le (fun y=>j5 (E.poss b) y.t) E.es
   have:=hE.es
   omega
 · obtain ⟨y,_,rfl⟩:=List.mem_map.1 hu
   exact a7e _ _ _
theorem b7r (hE:E.Fine) (hV:a9Q V) (typ:List Nat) {x:Ent} (hx:∀ v∈x.ls,v.Fin) (f:FDef) (fs:List Sel) (path:Pth) {s:RS} (hs:s.steps≤5001):(r5 E V typ x f fs path s).1.1.Fin:=by
 unfold r5
 split
 · exact a7e _ _ _
 split
 · exact a1U hV _ (c1z hx _) _ _ hs
 split
 · exact a1U hV _ (b74 hE _) _ _ (by rw [B9]; exact hs)
 · generalize E.args f (a0w fs)=r
   obtain ⟨a,e⟩:=r
   dsimp only
   split
   · exact a1U hV _ (a7e _ _ _) _ _ (by rw [B9]; exact hs)
   · exact Val.none_fin
theorem a3a (hE:E.Fine) (hV:a9Q V) (hM:Inv a5I V) (hC:Inv b9D V) (typ:List Nat) {x:Ent} (hx:∀ v∈x.ls,v.Fin) (path:Pth):∀ (gs:List (List Nat×List Sel)) (ks:List (List Nat)) (ls:List Val) (s:RS),(∀ u∈ls,u.Fin)→ks.length≤s.steps→ls.length≤s.steps→s.steps≤5001→(r8 E V typ x path gs ks ls s).1.1.Fin
 | [],ks,ls,s,ha,hk,hl,hs=>by rw [r8]; exact .mk _ _ _ _ _ (by omega) (by omega) ha
 | (key,fs)::gs,ks,ls,s,ha,hk,hl,hs=>by
  unfold r8
  cases E.fld typ (H7 fs) with
  | none=>exact a3a hE hV hM hC typ hx path gs ks ls s ha hk hl hs
  | some f =>
   dsimp only
   split
   · rename_i c
     have hup:=b53 c
     have h1:=b7r hE hV typ hx f fs (path++[key]) (s:=s.step) (by omega)
     have h2:=a2U (J6 E) hM typ x f fs (path++[key]) s.step
     have h3:=a2U (a0d E) hC typ x f fs (path++[key]) s.step
     revert h1 h2 h3
     generalize r5 E V typ x f fs (path++[key]) s.step=r
     obtain ⟨⟨y,ok⟩,s2⟩:=r
     intro h1 h2 h3
     dsimp only at h1 h2 h3 ⊢
     have h2:s.step.steps≤s2.steps:=h2
     have h3:s2.steps≤5001:=h3 (by omega)
     split
     · refine a3a hE hV hM hC typ hx path gs (ks++[key]) (ls++[y]) s2 (fun u hu=>?_) (by simp; omega) (by simp; omega) h3
       rcases List.mem_append.1 hu with hu|hu
       · exact ha u hu
       · simp at hu; subst hu; exact h1
     · exact Val.none_fin
   · exact Val.none_fin
theorem b2M (hE:E.Fine):∀ n,a9Q (valF E n)
 | 0=>fun t v fs path s hv hs=>Val.none_fin
 | n+1=>fun t v fs path s hv hs=>by
  have ih:=b2M hE n
  have hM:=J7 (J6 E) n
  have hC:=J7 (a0d E) n
  rw [valF.eq_def]
  dsimp only
  split
  · exact hv
  cases t with
  | wrap u b =>
   dsimp only
   split
   · exact a7N (E:=E) ih hM hC u fs path _ _ _ s hv.vals (by simp) (Nat.zero_le _) hs
   · exact Val.none_fin
  | base nm b =>
   dsimp only
   split
   · split
     · exact hv
     · exact Val.none_fin
   split
   · cases hg:W5 E.es v.text with
     | none=>exact Val.none_fin
     | some x =>
      dsimp only
      split
      · have h1:=a3a hE ih hM hC x.t (hE.vals x (a03 hg).1) path (E.grp x.t (m3 fs)) [] [] (E.know s nm) (by simp) (Nat.zero_le _) (Nat.zero_le _) (by rw [B9]; exact hs)
        revert h1
        generalize r8 E (valF E n) x.t x path (E.grp x.t (m3 fs)) [] [] (E.know s nm)=r
        obtain ⟨⟨y,ok⟩,s2⟩:=r
        exact id
      · exact Val.none_fin
   · exact Val.none_fin
end
end Go.Cb.CodeA
