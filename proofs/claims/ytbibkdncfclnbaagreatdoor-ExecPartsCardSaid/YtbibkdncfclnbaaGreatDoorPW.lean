import Derived.Test.YtbibkdncfclnbaaGreatDoorYs1
import Derived.Test.YtbibkdncfclnbaaGreatDoorPT
set_option maxRecDepth 20000
set_option linter.unusedSimpArgs false
set_option linter.unusedVariables false
namespace Go.Cb.CodeA
open Go Go.Cb
def Lw (v:Val):Prop:=eqI v.kind 8=true∨∃ k n s ls,v=.mk k n s [] ls∧s.length≤TB∧(k≠5→ls=[])∧ls.length≤2000∧∀ u∈ls,eqI u.kind 8=true∨∃ k n s,u=.mk k n s [] []∧s.length≤TB
mutual
def Sel.sm:Sel→Bool
 | .mk _ al nm _ _ _ sub=>Nat.ble al.length 200 && Nat.ble nm.length 200 && Sel.sms sub
def Sel.sms:List Sel→Bool
 | []=>true
 | x::xs=>x.sm && Sel.sms xs
end
theorem a4r:∀ l:List Sel,Sel.sms l=true ↔ ∀ x∈l,x.sm=true
 | []=>by simp [Sel.sms]
 | x::l=>by rw [Sel.sms,AA,a4r l]; simp
def Nm (l:List Sel):Prop:=(∀ x∈l,x.sm=true)∧sizes l≤2001
theorem Nm.subs {l:List Sel} (h:Nm l):Nm (m2 l):=by
 refine ⟨fun x hx=>?_,Nat.le_trans (a0H l) h.2⟩
 obtain ⟨y,hy,hx⟩:=List.mem_flatMap.1 hx
 have:=h.1 y hy
 obtain ⟨k,al,nm,on,as,ds,sub⟩:=y
 rw [Sel.sm,AA] at this
 exact (a4r sub).1 this.2 x hx
structure REnv.Wt (E:REnv):Prop where
 vals:∀ e∈E.es,∀ v∈e.ls,Lw v
 es:E.es.length≤2000
 grp:∀ typ l,Nm l→(E.grp typ l).length≤2001∧∀ g∈E.grp typ l,g.1.length≤200∧Nm g.2
 poss:∀ n t,l6 (E.poss n) t=true→t.length≤200
 leaf:∀ n v,a0G E n v=true→eqI v.kind 0=false→v.kind≠5∧eqI v.kind 8=false
def WC0:Nat:=2 ^ 48+1000
def WM:Nat:=2 ^ 48+2000
def TW (V:VF):Prop:=∀ t v fs path s,Lw v→Nm fs→(V t v fs path s).1.OK∧(V t v fs path s).1.w+WM*s.steps≤WC0+WM*(V t v fs path s).2.steps
theorem a10:Val.none.w=30:=rfl
theorem Lw.none:Lw Val.none:=.inr ⟨0,0,[],[],rfl,by decide,fun _=>rfl,by decide,by simp⟩
theorem b3f (k n:Int) (s:List Nat):(Val.mk k n s [] []).OK:=.mk _ _ _ _ _ (fun _=>rfl) (by decide) (by decide) (by simp)
theorem c2K (k n:Int) (s:List Nat):(Val.mk k n s [] []).w=30+2*s.length:=by rw [Val.w_mk]; simp [wS]
section
variable {E:REnv} {V:VF}
theorem a7s (hM:Inv Z9 V) (hV:TW V) (t:TRef) {v:Val} (hv:Lw v) {fs:List Sel} (hf:Nm fs) (path:Pth) (s:RS):(y9 V t v fs path s).1.1.OK∧(y9 V t v fs path s).1.1.w+WM*s.steps≤WC0+WM*(y9 V t v fs path s).2.steps:=by
 obtain ⟨h1,h2⟩:=hV t v fs path s hv hf
 have hs:=hM t v fs path s
 rw [R8]
 unfold y9
 revert h1 h2 hs
 generalize V t v fs path s=r
 obtain ⟨out,s2⟩:=r
 intro h1 h2 hs
 have hs:s.steps≤s2.steps:=hs
 dsimp only at h1 h2 ⊢
 split
 · refine ⟨Val.none_ok,?_⟩
   dsimp only
   rw [a10]
   unfold WC0 WM at *
   omega
 · exact ⟨h1,h2⟩
theorem b3Y {E:REnv} (hM:Inv Z9 V) (hV:TW V) (t:TRef) {fs:List Sel} (hf:Nm fs) (path:Pth):∀ (l:List Val) (i:Nat) (acc:List Val) (s:RS),(∀ u∈l,Lw u)→(∀ u∈acc,u.OK)→acc.length+l.length≤2000→(B0 V t fs path l i acc s).1.OK∧(B0 V t fs path l i acc s).1.w+WM*s.steps≤30+wS (fun v:Val=>v.w+10) acc+WM*(B0 V t fs path l i acc s).2.steps
 | [],i,acc,s,_,ha,hl=>by
  rw [B0]
  refine ⟨.mk _ _ _ _ _ (fun h=>absurd h (by decide)) (by decide) (by simp at hl; omega) ha,?_⟩
  dsimp only
  rw [Val.w_mk]
  simp [wS]
 | x::xs,i,acc,s,h,ha,hl=>by
  have hmono:=a1D (D7 E) hM t fs path (x::xs) i acc s
  have hmono:s.steps≤(B0 V t fs path (x::xs) i acc s).2.steps:=hmono
  revert hmono
  unfold B0
  split
  · rename_i c
    have hup:=b6x c
    have hc:=a7s hM hV t (h x (by simp)) hf (path++[H1 (i:Int)]) s.step
    revert hc
    generalize y9 V t x fs (path++[H1 (i:Int)]) s.step=r
    obtain ⟨⟨y,ok⟩,s2⟩:=r
    intro hc
    dsimp only at hc ⊢
    split
    · intro _
      have ih:=b3Y (E:=E) hM hV t hf path xs (i+1) (acc++[y]) s2 (fun u hu=>h u (by simp [hu])) (fun u hu=>by
       rcases AP.1 hu with hu|hu
       · exact ha u hu
       · simp at hu; subst hu; exact hc.1) (by simp at hl ⊢; omega)
      refine ⟨ih.1,?_⟩
      have h2:=ih.2
      have h3:=hc.2
      rw [a3A,a7j] at h2
      rw [hup] at h3
      unfold WC0 WM at *
      omega
    · intro hmono
      refine ⟨Val.none_ok,?_⟩
      dsimp only at hmono ⊢
      rw [a10]
      unfold WM at *
      omega
  · intro hmono
    refine ⟨Val.none_ok,?_⟩
    dsimp only at hmono ⊢
    rw [a10]
    unfold WM at *
    omega
theorem d2n {x:Ent} (hx:∀ v∈x.ls,Lw v) (n:List Nat):Lw (atK 6 x.ks x.ls n):=by
 unfold atK
 rw [if_pos (show eqI 6 6=true from rfl)]
 cases pI (fun y=>eqN n y) x.ks with
 | none=>exact Lw.none
 | some i =>
  dsimp only
  cases hi:x.ls[i]? with
  | none=>exact Lw.none
  | some v=>exact hx v (List.mem_of_getElem? hi)
theorem c76 (hE:E.Wt) (b:List Nat):Lw (.mk 5 0 [] [] ((E.es.filter fun y=>l6 (E.poss b) y.t).map fun y=>J3 y.id)):=by
 refine .inr ⟨_,_,_,_,rfl,by decide,fun h=>absurd rfl h,?_,fun u hu=>?_⟩
 · rw [AF]; exact Nat.le_trans (List.length_filter_le _ _) hE.es
 · obtain ⟨y,_,rfl⟩:=List.mem_map.1 hu
   exact .inl rfl
theorem a8y (hE:E.Wt) (hM:Inv Z9 V) (hV:TW V) {typ:List Nat} (ht:typ.length≤200) {x:Ent} (hx:∀ v∈x.ls,Lw v) (f:FDef) {fs:List Sel} (hf:Nm fs) (path:Pth) (s:RS):(m8 E V typ x f fs path s).1.1.OK∧(m8 E V typ x f fs path s).1.1.w+WM*s.steps≤WC0+WM*(m8 E V typ x f fs path s).2.steps:=by
 unfold m8
 split
 · refine ⟨b3f _ _ _,?_⟩
   dsimp only
   rw [c2K]
   unfold WC0
   omega
 split
 · exact a7s hM hV _ (d2n hx _) hf _ _
 split
 · have h:=a7s hM hV f.t (c76 hE f.t.bs) hf path (E.know s f.t.bs)
   rw [B3] at h
   exact h
 · generalize E.args f (U4 fs)=r
   obtain ⟨a,e⟩:=r
   dsimp only
   split
   · have h:=a7s hM hV f.t (v:=J3 (atK a.kind a.names a.vals idN).text) (.inl rfl) hf path (E.know s f.t.bs)
     rw [B3] at h
     exact h
   · refine ⟨Val.none_ok,?_⟩
     show 30+_≤_+WM*(E.know s f.t.bs).steps
     rw [B3]
     unfold WC0
     omega
theorem b5T (hE:E.Wt) (hM:Inv Z9 V) (hV:TW V) {typ:List Nat} (ht:typ.length≤200) {x:Ent} (hx:∀ v∈x.ls,Lw v) (path:Pth):∀ (gs:List (List Nat×List Sel)) (ks:List (List Nat)) (ls:List Val) (s:RS),(∀ g∈gs,g.1.length≤200∧Nm g.2)→(∀ u∈ls,u.OK)→ks.length=ls.length→ks.length+gs.length≤2001 →
 (u9 E V typ x path gs ks ls s).1.1.OK∧(u9 E V typ x path gs ks ls s).1.1.w+WM*s.steps≤30+wS (fun k:List Nat=>k.length+10) ks+wS (fun v:Val=>v.w+10) ls+WM*(u9 E V typ x path gs ks ls s).2.steps
 | [],ks,ls,s,_,ha,hk,hl=>by
  rw [u9]
  refine ⟨.mk _ _ _ _ _ (fun _=>hk) (by simp at hl; omega) (by simp at hl; omega) ha,?_⟩
  dsimp only
  rw [Val.w_mk]
  simp
 | (key,fs)::gs,ks,ls,s,hg,ha,hk,hl=>by
  have hmono:s.steps≤(u9 E V typ x path ((key,fs)::gs) ks ls s).2.steps:=a0R (D7 E) hM typ x path ((key,fs)::gs) ks ls s
  obtain ⟨hkey,hfs⟩:=hg (key,fs) (by simp)
  dsimp only at hkey hfs
  revert hmono
  unfold u9
  cases E.fld typ (R3 fs) with
  | none=>exact fun _=>b5T hE hM hV ht hx path gs ks ls s (fun g h=>hg g (by simp [h])) ha hk (by simp at hl; omega)
  | some f =>
   dsimp only
   split
   · rename_i c
     have hup:=b6x c
     have hc:=a8y hE hM hV ht hx f hfs (path++[key]) s.step
     revert hc
     generalize m8 E V typ x f fs (path++[key]) s.step=r
     obtain ⟨⟨y,ok⟩,s2⟩:=r
     intro hc
     dsimp only at hc ⊢
     split
     · intro _
       have ih:=b5T hE hM hV ht hx path gs (ks++[key]) (ls++[y]) s2 (fun g h=>hg g (by simp [h])) (fun u hu=>by
        rcases AP.1 hu with hu|hu
        · exact ha u hu
        · simp at hu; subst hu; exact hc.1) (by simp [hk]) (by simp at hl ⊢; omega)
       refine ⟨ih.1,?_⟩
       have h2:=ih.2
       have h3:=hc.2
       rw [a3A,a7j,a3A,a7j] at h2
       rw [hup] at h3
       unfold WC0 WM at *
       omega
     · intro hmono
       refine ⟨Val.none_ok,?_⟩
       dsimp only at hmono ⊢
       rw [a10]
       unfold WM at *
       omega
   · intro hmono
     refine ⟨Val.none_ok,?_⟩
     dsimp only at hmono ⊢
     rw [a10]
     unfold WM at *
     omega
theorem Lw.flat {v:Val} (h:Lw v) (h8:eqI v.kind 8=false) (h5:v.kind≠5):v.OK∧v.w≤WC0:=by
 rcases h with h|⟨k,n,s,ls,rfl,h1,h2,_⟩
 · rw [h] at h8; cases h8
 · have e:=h2 h5
   subst e
   refine ⟨b3f _ _ _,?_⟩
   rw [c2K]
   unfold WC0 TB at *
   omega
theorem b6k (hE:E.Wt):∀ n,TW (valF E n)
 | 0=>fun t v fs path s hv hf=>⟨Val.none_ok,by show 30+_≤_; unfold WC0; exact Nat.add_le_add_right (by decide) _⟩
 | n+1=>fun t v fs path s hv hf=>by
  have ih:=b6k hE n
  have hM:=U1 (D7 E) n
  rw [valF.eq_def]
  dsimp only
  split
  · rename_i c
    have hk:v.kind=0:=by rw [eqI_eq] at c; simpa using c
    obtain ⟨h1,h2⟩:=hv.flat (by rw [hk]; rfl) (by rw [hk]; decide)
    exact ⟨h1,Nat.add_le_add_right h2 _⟩
  rename_i c0
  cases t with
  | wrap u b =>
   dsimp only
   split
   · rename_i c5
     rcases hv with h|⟨k,m,w,ls,rfl,h1,h2,h3,h4⟩
     · have hk:v.kind=5:=by rw [eqI_eq] at c5; simpa using c5
       rw [hk] at h; cases h
     · have hI:=b3Y (E:=E) hM ih u hf path (Val.mk k m w [] ls).vals 0 [] s (fun x hx=>by
        rcases h4 x hx with h|⟨k,n,s,rfl,hs⟩
        · exact .inl h
        · exact .inr ⟨_,_,_,_,rfl,hs,fun _=>rfl,by simp,by simp⟩) (by simp) (by show 0+ls.length≤2000; omega)
       refine ⟨hI.1,Nat.le_trans hI.2 ?_⟩
       simp only [wS]
       unfold WC0
       omega
   · refine ⟨Val.none_ok,?_⟩
     show 30+_≤_+WM*s.steps
     unfold WC0
     omega
  | base nm b =>
   dsimp only
   have hnone:∀ s2:RS,s2.steps=s.steps→Val.none.OK∧Val.none.w+WM*s.steps≤WC0+WM*s2.steps:=fun s2 h=>by
    refine ⟨Val.none_ok,?_⟩
    rw [a10,h]
    unfold WC0
    omega
   split
   · split
     · rename_i cl
       obtain ⟨h5,h8⟩:=hE.leaf nm v cl (by simpa using c0)
       obtain ⟨h1,h2⟩:=hv.flat h8 h5
       exact ⟨h1,Nat.add_le_add_right h2 _⟩
     · exact hnone _ rfl
   split
   · cases hg:a0x E.es v.text with
     | none=>exact hnone _ (B3 E s nm)
     | some x =>
      dsimp only
      split
      · rename_i cp
        obtain ⟨hg1,hg2⟩:=hE.grp x.t (m2 fs) hf.subs
        have hO:=b5T hE hM ih (hE.poss nm x.t cp) (hE.vals x (a3u hg).1) path (E.grp x.t (m2 fs)) [] [] (E.know s nm) hg2 (by simp) rfl (by simpa using hg1)
        rw [B3] at hO
        revert hO
        generalize u9 E (valF E n) x.t x path (E.grp x.t (m2 fs)) [] [] (E.know s nm)=r
        obtain ⟨⟨y,ok⟩,s2⟩:=r
        intro hO
        dsimp only at hO ⊢
        refine ⟨hO.1,Nat.le_trans hO.2 ?_⟩
        simp only [wS]
        unfold WC0
        omega
      · exact hnone _ (B3 E s nm)
   · exact hnone _ rfl
end
end Go.Cb.CodeA
