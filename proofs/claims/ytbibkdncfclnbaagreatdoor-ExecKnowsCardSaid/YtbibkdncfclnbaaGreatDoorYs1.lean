import Derived.Test.YtbibkdncfclnbaaGreatDoorXs1
import Derived.Test.YtbibkdncfclnbaaGreatDoorC6
set_option maxRecDepth 20000
set_option linter.all false
namespace Go.Cb.CodeA
open Go Go.Cb
structure Steady (E:REnv) (R:RS→RS→Prop):Prop where
 refl:∀ s,R s s
 trans:∀ {a b c},R a b→R b c→R a c
 step:∀ s,R s s.step
 prob:∀ s p e,R s (s.prob p e)
 know:∀ s n,R s (E.know s n)
def Inv (R:RS→RS→Prop) (V:VF):Prop:=∀ t v fs path s,R s (V t v fs path s).2
section
variable {E:REnv} {R:RS→RS→Prop}
theorem W4 (e:Steady E R) {V:VF} (l:Inv R V) (t:TRef) (v:Val) (fs:List Sel) (path:List (List Nat)) (s:RS):R s (H3 V t v fs path s).2:=by
 have h:=l t v fs path s;unfold H3;revert h;generalize V t v fs path s=r;obtain⟨out,u⟩:=r;intro h;dsimp only at h ⊢;split
 · dsimp only;split
   · exact e.trans h (e.prob _ _ _)
   · exact h
 · exact h
theorem a5d (u:Steady E R) {V:VF} (C:Inv R V) (t:TRef) (fs:List Sel) (path:List (List Nat)):∀ (l:List Val) (i:Nat) (e:List Val) (s:RS),R s (M5 V t fs path l i e s).2
 | [],i,e,s=>u.refl s
 | x::xs,i,e,s=>by
  unfold M5;have z:=u.step s;split
  · have v:=W4 u C t x fs (path++[L0 (i:Int)]) s.step;revert v;generalize H3 V t x fs (path++[L0 (i:Int)]) s.step=r;obtain⟨⟨y,ok⟩,I⟩:=r;intro v;dsimp only at v ⊢;split
    · exact u.trans (u.trans z v) (a5d u C t fs path xs (i+1) _ I)
    · exact u.trans z v
  · exact z
theorem a5x (l:Steady E R) {V:VF} (t:Inv R V) (typ:List Nat) (x:Ent) (f:FDef) (fs:List Sel) (path:List (List Nat)) (s:RS):R s (M3 E V typ x f fs path s).2:=by
 unfold M3;split
 · exact l.refl s
 split
 · exact W4 l t _ _ _ _ _
 split
 · exact l.trans (l.know s _) (W4 l t _ _ _ _ _)
 · generalize E.args f (a3B fs)=r;obtain⟨a,e⟩:=r;dsimp only;split
   · exact l.trans (l.know s _) (W4 l t _ _ _ _ _)
   · exact l.trans (l.know s _) (l.prob _ _ _)
theorem a3V (e:Steady E R) {V:VF} (u:Inv R V) (typ:List Nat) (x:Ent) (path:List (List Nat)):∀ (gs:List (List Nat×List Sel)) (ks:List (List Nat)) (ls:List Val) (s:RS),R s (I2 E V typ x path gs ks ls s).2
 | [],ks,ls,s=>e.refl s
 | (key,fs)::gs,ks,ls,s=>by
  unfold I2;cases z:E.fld typ (a3L fs)with
  | none=>exact a3V e u typ x path gs ks ls s
  | some f =>
   dsimp only;have t:=e.step s;split
   · have l:=a5x e u typ x f fs (path++[key]) s.step;revert l;generalize M3 E V typ x f fs (path++[key]) s.step=r;obtain⟨⟨y,ok⟩,v⟩:=r;intro l;dsimp only at l ⊢;split
     · exact e.trans (e.trans t l) (a3V e u typ x path gs _ _ v)
     · exact e.trans t l
   · exact t
theorem a0m (e:Steady E R):∀ n,Inv R (valF E n)
 | 0=>fun t v fs path s=>e.refl s
 | n+1=>fun t v fs path s=>by
  rw[valF.eq_def];dsimp only;split
  · exact e.refl s
  cases t with
  | wrap u b =>
   dsimp only;split
   · exact a5d e (a0m e n) u fs path _ _ _ s
   · exact e.prob _ _ _
  | base nm b =>
   dsimp only;split
   · split
     · exact e.refl s
     · exact e.prob _ _ _
   split
   · cases z:F4 E.es v.text with
     | none=>exact e.know s nm
     | some x =>
      dsimp only;split
      · have l:=e.trans (e.know s nm) (a3V e (a0m e n) x.t x path (E.grp x.t (B8 fs)) [] [] (E.know s nm));revert l;generalize I2 E (valF E n) x.t x path (E.grp x.t (B8 fs)) [] [] (E.know s nm)=r;obtain⟨⟨y,ok⟩,C⟩:=r;exact id
      · exact e.know s nm
   · exact e.prob _ _ _
end
theorem a0y (E:REnv) (s:RS) (n:List Nat):(E.know s n).steps=s.steps:=by unfold REnv.know; split<;>rfl
theorem c75 (s:RS):s.steps≤s.step.steps:=by unfold RS.step; dsimp only; split<;>omega
def b0R (s e:RS):Prop:=s.steps≤e.steps
theorem a0s (E:REnv):Steady E b0R:=⟨fun _=>AK _,Nat.le_trans,c75,fun _ _ _=>AK _,fun s n=>Nat.le_of_eq (a0y E s n).symm⟩
structure REnv.Sim (E E':REnv):Prop where
 es:E'.es=E.es
 fld:E'.fld=E.fld
 grp:E'.grp=E.grp
 poss:E'.poss=E.poss
 leaf:E'.leaf=E.leaf
 fits:E'.fits=E.fits
 knows:E'.knows=E.knows
 args:E'.args=E.args
theorem REnv.Sim.refl (E:REnv):E.Sim E:=⟨rfl,rfl,rfl,rfl,rfl,rfl,rfl,rfl⟩
abbrev Pth:=List (List Nat)
def c9J (p:Pth) (x:Pth×Int):Pth×Int:=(p++x.1,x.2)
section
variable (d:Nat) (A B:List (Pth×Int)) (p q:Pth)
structure RelS (s s':RS):Prop where
 ps:∃ l:List (Pth×Int),s.ps=A++l.map (c9J p)∧s'.ps=B++l.map (c9J q)
 part:s'.part=s.part
 steps:s'.steps=s.steps+d
def Room (s:RS):Prop:=d=0∨s.steps≤5000
end
section
variable {d:Nat} {A B:List (Pth×Int)} {p q:Pth}
theorem Room.le {s e:RS} (h:Room d e) (l:s.steps≤e.steps):Room d s:=h.imp id fun h=>Nat.le_trans l h
theorem RelS.prob {s s':RS} (h:RelS d A B p q s s') (r:Pth) (e:Int):RelS d A B p q (s.prob (p++r) e) (s'.prob (q++r) e):=by
 obtain⟨l,t,u⟩:=h.ps;refine⟨⟨l++[(r,e)],?_,?_⟩,h.part,h.steps⟩
 · show s.ps++_=_;rw[t,AW,AX]; rfl
 · show s'.ps++_=_;rw[u,AW,AX]; rfl
theorem RelS.step {s s':RS} (h:RelS d A B p q s s') (hr:Room d s'.step):RelS d A B p q s.step s'.step∧(s.step.steps≤5000↔s'.step.steps≤5000):=by
 have e:=h.steps;have l:s.step.steps=if s.steps≤5000 then s.steps+1 else s.steps:=rfl
 have e2:s'.step.steps=if s'.steps≤5000 then s'.steps+1 else s'.steps:=rfl
 have t:s'.step.steps=s.step.steps+d:=by
  rcases hr with rfl|hr
  · rw[l,e2,e]; simp only[Nat.add_zero]
  · rw[e2]at hr;rw[l,e2,e];rw[e]at hr;by_cases c:s.steps+d≤5000
    · rw[if_pos c,if_pos (by omega)]; omega
    · rw[if_neg c]at hr; omega
 refine⟨⟨h.ps,h.part,t⟩,?_⟩;rcases hr with rfl|hr
 · rw[t,Nat.add_zero]
 · exact⟨fun _=>hr,fun _=>by omega⟩
theorem RelS.know {E E':REnv} (e:E.Sim E') {s s':RS} (h:RelS d A B p q s s') (n:List Nat):RelS d A B p q (E.know s n) (E'.know s' n):=by
 unfold REnv.know;rw[e.knows];split
 · exact h
 · exact⟨h.ps,rfl,h.steps⟩
end
end Go.Cb.CodeA
namespace Go.Cb.CodeA
open Go Go.Cb
mutual
def Sel.cost:Sel→Nat
 | .mk k _ _ _ _ _ sub=>if eqI k 1 then 13+12*O6 sub else O6 sub
def O6:List Sel→Nat
 | []=>0
 | x::xs=>x.cost+O6 xs
end
theorem N7 (x:Sel) (l:List Sel):O6 (x::l)=x.cost+O6 l:=by rw[O6]
theorem c4Y (k:Int) (al nm on:List Nat) (as:List Arg) (ds:List Dir) (sub:List Sel):(Sel.mk k al nm on as ds sub).cost=if eqI k 1 then 13+12*O6 sub else O6 sub:=by rw[Sel.cost]
theorem a9W:∀ a b:List Sel,O6 (a++b)=O6 a+O6 b
 | [],b=>by simp[O6]
 | x::a,b=>by rw[List.cons_append,N7,N7,a9W a b]; omega
def c2C:List (List Nat×List Sel)→Nat
 | []=>0
 | g::gs=>13+12*O6 (B8 g.2)+c2C gs
def Few (v:Val):Prop:=v.vals.length≤12∧∀ u∈v.vals,u.vals=[]
theorem Few.flat {v:Val} (h:v.vals=[]):Few v:=⟨by rw[h]; simp,by rw[h]; simp⟩
structure REnv.Little (E:REnv):Prop where
 es:E.es.length≤12
 vals:∀ e∈E.es,∀ v∈e.ls,Few v
 grp:∀ typ l,c2C (E.grp typ l)≤O6 l
section
variable {E:REnv} {V:VF}
end
def Sel.kd:Sel→Int|.mk k _ _ _ _ _ _=>k
theorem FRun.cost {K:Cfg} (u:K.frags=[]) {l:List Sel} {s:List (List Nat)} {F:List Sel} {s':List (List Nat)} (h:FRun K l s F s'):(∀ x∈F,eqI x.kd 1=true)∧O6 F≤O6 l:=by
 induction h with
 | nil s=>exact⟨by simp,AK _⟩
 | skipC _ _ e=>rw[N7]; exact⟨e.1,by omega⟩
 | fieldC _ b _ e =>rw[N7,N7];exact⟨fun x hx=>by rcases List.mem_cons.1 hx with rfl|hx; exact b; exact e.1 x hx,by omega⟩
 | noneC _ _ _ _ _ e=>rw[N7]; exact⟨e.1,by omega⟩
 | otherC _ _ _ g1 g2 _ _ _ e=>rw[u]at g2; simp at g2
 | spreadC _ _ _ g1 g2 _ _ _ _ e t=>rw[u]at g2; simp at g2
 | inNoC _ _ _ _ _ e=>rw[N7]; exact⟨e.1,by omega⟩
 | inlC _ b _ _ _ _ e t =>
  rw[N7,a9W,c4Y,b];refine⟨fun x hx=>?_,?_⟩
  · rcases AQ.1 hx with hx|hx
    · exact e.1 x hx
    · exact t.1 x hx
  · have:=e.2; have:=t.2;simp only[Bool.false_eq_true,if_false];omega
end Go.Cb.CodeA
namespace Go.Cb.CodeA
open Go Go.Cb
def c0S (s e:RS):Prop:=s.steps≤5001→e.steps≤5001
theorem a1K (E:REnv):Steady E c0S:=⟨fun _ h=>h,fun e l h=>l (e h),fun s h=>by unfold RS.step; dsimp only; split<;>omega,fun _ _ _ h=>h,fun s n h=>by rw[a0y]; exact h⟩
theorem Val.none_fin:Val.none.Fin:=.mk _ _ _ _ _ (by decide) (by decide) (by simp)
theorem a9a (k n:Int) (s:List Nat):(Val.mk k n s [] []).Fin:=.mk _ _ _ _ _ (by decide) (by decide) (by simp)
theorem Val.Fin.vals {v:Val} (h:v.Fin):∀ u∈v.vals,u.Fin:=by cases h with|mk k n s ks ls e l h=>exact h
structure REnv.Fine (E:REnv):Prop where
 es:E.es.length≤100000
 vals:∀ e∈E.es,∀ v∈e.ls,v.Fin
def b0U (V:VF):Prop:=∀ t v fs path s,v.Fin→s.steps≤5001→(V t v fs path s).1.Fin
theorem b80 {s:RS} (h:s.step.steps≤5000):s.step.steps=s.steps+1:=by
 unfold RS.step at h ⊢;dsimp only at h ⊢;split
 · rfl
 · rename_i c; rw[if_neg c]at h; omega
section
variable {E:REnv} {V:VF}
theorem a4I (e:b0U V) (t:TRef) {v:Val} (u:v.Fin) (fs:List Sel) (path:Pth) {s:RS} (l:s.steps≤5001):(H3 V t v fs path s).1.1.Fin:=by
 have h:=e t v fs path s u l;unfold H3;revert h;generalize V t v fs path s=r;obtain⟨out,x⟩:=r;intro h;dsimp only at h ⊢;split
 · exact Val.none_fin
 · exact h
theorem a9R {E:REnv} {V:VF} (M:b0U V) (L:Inv b0R V) (J:Inv c0S V) (t:TRef) (fs:List Sel) (path:Pth):∀ (l:List Val) (i:Nat) (e:List Val) (s:RS),(∀ u∈l,u.Fin)→(∀ u∈e,u.Fin)→e.length≤s.steps→s.steps≤5001→(M5 V t fs path l i e s).1.Fin
 | [],i,e,s,_,ha,hl,hs=>by rw[M5]; exact .mk _ _ _ _ _ (by decide) (by omega) ha
 | x::xs,i,e,s,h,ha,hl,hs=>by
  unfold M5;split
  · rename_i c;have N:=b80 c;have C:=a4I M t (h x (by simp)) fs (path++[L0 (i:Int)]) (s:=s.step) (by omega);have z:=W4 (a0s E) L t x fs (path++[L0 (i:Int)]) s.step;have v:=W4 (a1K E) J t x fs (path++[L0 (i:Int)]) s.step;revert C z v;generalize H3 V t x fs (path++[L0 (i:Int)]) s.step=r;obtain⟨⟨y,ok⟩,I⟩:=r;intro C z v;dsimp only at C z v ⊢;have z:s.step.steps≤I.steps:=z;have v:I.steps≤5001:=v (by omega);split
    · refine a9R (E:=E) M L J t fs path xs (i+1) (e++[y]) I (fun u hu=>h u (by simp[hu])) (fun u hu=>?_) (by simp; omega) v;rcases AQ.1 hu with hu|hu
      · exact ha u hu
      · simp at hu; subst hu; exact C
    · exact Val.none_fin
  · exact Val.none_fin
theorem c6D {x:Ent} (e:∀ v∈x.ls,v.Fin) (n:List Nat):(atK 6 x.ks x.ls n).Fin:=by
 unfold atK;rw[if_pos (show eqI 6 6=true from rfl)];cases pI (fun y=>eqN n y) x.ks with
 | none=>exact Val.none_fin
 | some i =>
  dsimp only;cases hi:x.ls[i]? with
  | none=>exact Val.none_fin
  | some v=>exact e v (List.mem_of_getElem? hi)
theorem c0s (e:E.Fine) (b:List Nat):(Val.mk 5 0 [] [] ((E.es.filter fun y=>k9 (E.poss b) y.t).map fun y=>W3 y.id)).Fin:=by
 refine .mk _ _ _ _ _ (by decide) ?_ fun u hu=>?_
 · rw[AG];have:=List.length_filter_le (fun y=>k9 (E.poss b) y.t) E.es;have:=e.es;omega
 · obtain⟨y,_,rfl⟩:=List.mem_map.1 hu;exact a9a _ _ _
theorem b83 (u:E.Fine) (l:b0U V) (typ:List Nat) {x:Ent} (y:∀ v∈x.ls,v.Fin) (f:FDef) (fs:List Sel) (path:Pth) {s:RS} (t:s.steps≤5001):(M3 E V typ x f fs path s).1.1.Fin:=by
 unfold M3;split
 · exact a9a _ _ _
 split
 · exact a4I l _ (c6D y _) _ _ t
 split
 · exact a4I l _ (c0s u _) _ _ (by rw[a0y]; exact t)
 · generalize E.args f (a3B fs)=r;obtain⟨a,e⟩:=r;dsimp only;split
   · exact a4I l _ (a9a _ _ _) _ _ (by rw[a0y]; exact t)
   · exact Val.none_fin
theorem a6c (C:E.Fine) (J:b0U V) (I:Inv b0R V) (z:Inv c0S V) (typ:List Nat) {x:Ent} (L:∀ v∈x.ls,v.Fin) (path:Pth):∀ (gs:List (List Nat×List Sel)) (ks:List (List Nat)) (ls:List Val) (s:RS),(∀ u∈ls,u.Fin)→ks.length≤s.steps→ls.length≤s.steps→s.steps≤5001→(I2 E V typ x path gs ks ls s).1.1.Fin
 | [],ks,ls,s,ha,hk,hl,hs=>by rw[I2]; exact .mk _ _ _ _ _ (by omega) (by omega) ha
 | (key,fs)::gs,ks,ls,s,ha,hk,hl,hs=>by
  unfold I2;cases E.fld typ (a3L fs)with
  | none=>exact a6c C J I z typ L path gs ks ls s ha hk hl hs
  | some f =>
   dsimp only;split
   · rename_i c;have N:=b80 c;have t:=b83 C J typ L f fs (path++[key]) (s:=s.step) (by omega);have l:=a5x (a0s E) I typ x f fs (path++[key]) s.step;have e:=a5x (a1K E) z typ x f fs (path++[key]) s.step;revert t l e;generalize M3 E V typ x f fs (path++[key]) s.step=r;obtain⟨⟨y,ok⟩,M⟩:=r;intro t l e;dsimp only at t l e ⊢;have l:s.step.steps≤M.steps:=l;have e:M.steps≤5001:=e (by omega);split
     · refine a6c C J I z typ L path gs (ks++[key]) (ls++[y]) M (fun u hu=>?_) (by simp; omega) (by simp; omega) e;rcases AQ.1 hu with hu|hu
       · exact ha u hu
       · simp at hu; subst hu; exact t
     · exact Val.none_fin
   · exact Val.none_fin
theorem b4q (l:E.Fine):∀ n,b0U (valF E n)
 | 0=>fun t v fs path s e z=>Val.none_fin
 | n+1=>fun t v fs path s e z=>by
  have J:=b4q l n;have I:=a0m (a0s E) n;have C:=a0m (a1K E) n;rw[valF.eq_def];dsimp only;split
  · exact e
  cases t with
  | wrap u b =>
   dsimp only;split
   · exact a9R (E:=E) J I C u fs path _ _ _ s e.vals (by simp) (Aa _) z
   · exact Val.none_fin
  | base nm b =>
   dsimp only;split
   · split
     · exact e
     · exact Val.none_fin
   split
   · cases M:F4 E.es v.text with
     | none=>exact Val.none_fin
     | some x =>
      dsimp only;split
      · have L:=a6c l J I C x.t (l.vals x (a23 M).1) path (E.grp x.t (B8 fs)) [] [] (E.know s nm) (by simp) (Aa _) (Aa _) (by rw[a0y]; exact z);revert L;generalize I2 E (valF E n) x.t x path (E.grp x.t (B8 fs)) [] [] (E.know s nm)=r;obtain⟨⟨y,ok⟩,N⟩:=r;exact id
      · exact Val.none_fin
   · exact Val.none_fin
end
end Go.Cb.CodeA
