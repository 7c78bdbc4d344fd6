import Derived.Test.YthnliekianmljaaGreatDoorP6
set_option maxRecDepth 20000
set_option linter.unusedSimpArgs false
set_option linter.unusedVariables false
namespace Go.Cb.CodeA
open Go Go.Cb

theorem a4q {α:Type} {Q:α→Prop} {step:Nat→α→Option (Bool×Nat×α)} (hs:∀ i a b j a',Q a→step i a=some (b,j,a')→Q a'):∀ (f i:Nat) (a x:α) (j:Nat),Q a→t8 step f i a=some (x,j)→Q x
 | 0,i,a,x,j,_,h=>by cases h
 | f+1,i,a,x,j,hq,h=>by
  rw [t8] at h
  cases hb:step i a with
  | none=>rw [hb] at h; cases h
  | some r =>
   obtain ⟨t,j',b⟩:=r
   rw [hb] at h
   cases t with
   | true =>
    cases h
    exact hs i a true j x hq hb
   | false=>exact a4q hs f j' b x j (hs i a false j' b hq hb) h
def AllK (l:List Sel):Prop:=∀ x∈l,x.Kd
theorem AllK.nil:AllK []:=fun x h=>by cases h
theorem AllK.snoc {l:List Sel} {x:Sel} (h:AllK l) (hx:x.Kd):AllK (l++[x]):=fun y hy=>by
 rcases List.mem_append.1 hy with hy|hy
 · exact h y hy
 · simp at hy; subst hy; exact hx
theorem c8k {L:List Tok} {f:Nat} {sP:Nat→Option (List Sel×Nat)} (hs:∀ i l j,sP i=some (l,j)→AllK l):∀ i x j,I7 L f sP i=some (x,j)→x.Kd:=by
 have inl:∀ on i x j,a0n L f sP on i=some (x,j)→x.Kd:=by
  intro on i x j h
  unfold a0n at h
  obtain ⟨ds,i2,g1,h⟩:=bind_some h
  obtain ⟨sub,i3,g2,h⟩:=bind_some h
  cases h
  exact .mk _ _ _ _ _ _ _ (Or.inr (Or.inr rfl)) (hs _ _ _ g2)
 intro i x j h
 unfold I7 at h
 split at h
 · split at h
   · obtain ⟨on,i2,g1,h⟩:=bind_some h
     exact inl _ _ _ _ h
   · split at h
     · obtain ⟨n,i2,g1,h⟩:=bind_some h
       obtain ⟨ds,i3,g2,h⟩:=bind_some h
       cases h
       exact .mk _ _ _ _ _ _ _ (Or.inr (Or.inl rfl)) AllK.nil
     · exact inl _ _ _ _ h
 · unfold a06 at h
   obtain ⟨n,i2,g1,h⟩:=bind_some h
   obtain ⟨y,i3,g2,h⟩:=bind_some h
   obtain ⟨as,i4,g3,h⟩:=bind_some h
   obtain ⟨ds,i5,g4,h⟩:=bind_some h
   split at h
   · obtain ⟨sub,i6,g5,h⟩:=bind_some h
     cases h
     exact .mk _ _ _ _ _ _ _ (Or.inl rfl) (hs _ _ _ g5)
   · cases h
     exact .mk _ _ _ _ _ _ _ (Or.inl rfl) AllK.nil
theorem a6d (L:List Tok):∀ f i l j,q9 L f i=some (l,j)→AllK l
 | 0=>by intro i l j h; rw [q9] at h; cases h
 | f+1=>by
  intro i l j h
  rw [q9] at h
  obtain ⟨i2,g1,h⟩:=w8 h
  refine a4q (Q:=AllK) (fun i a b j a' ha h=>?_) _ _ _ _ _ AllK.nil h
  unfold O1 at h
  obtain ⟨y,i3,g2,h⟩:=bind_some h
  have hy:=c8k (a6d L f) _ _ _ g2
  split at h
  · cases h; exact ha.snoc hy
  · cases h; exact ha.snoc hy
def b0Y (D:Docm):Prop:=(∀ o∈D.ops,AllK o.sub)∧∀ f∈D.frags,AllK f.sub
theorem c4I {L:List Tok} {D:Docm} (h:a0u L=some D):b0Y D:=by
 unfold a0u at h
 obtain ⟨y,k,h1,h2⟩:=bind_some h
 have:=a4q (Q:=fun x:Bool×Docm=>b0Y x.2) (fun i a b j a' ha h=>by
  unfold G5 at h
  split at h
  · cases h; exact ha
  · split at h
    · obtain ⟨f,i2,g1,h⟩:=bind_some h
      unfold Y8 at g1
      split at g1
      · cases g1
      · obtain ⟨n,i3,g2,g1⟩:=bind_some g1
        obtain ⟨i4,g3,g1⟩:=w8 g1
        obtain ⟨on,i5,g4,g1⟩:=bind_some g1
        obtain ⟨sub,i6,g5,g1⟩:=bind_some g1
        cases g1
        cases h
        refine ⟨ha.1,fun f hf=>?_⟩
        rcases List.mem_append.1 hf with hf|hf
        · exact ha.2 f hf
        · simp at hf; subst hf; exact a6d L 24 _ _ _ g5
    · obtain ⟨o,i2,g1,h⟩:=bind_some h
      have key:AllK o.sub:=by
       unfold opP at g1
       split at g1
       · obtain ⟨sub,i6,g5,g1⟩:=bind_some g1
         cases g1
         exact a6d L 24 _ _ _ g5
       · obtain ⟨m,i3,g2,g1⟩:=bind_some g1
         obtain ⟨n,i4,g3,g1⟩:=bind_some g1
         obtain ⟨vs,i5,g4,g1⟩:=bind_some g1
         obtain ⟨sub,i6,g5,g1⟩:=bind_some g1
         cases g1
         exact a6d L 24 _ _ _ g5
      cases h
      refine ⟨fun o' ho=>?_,ha.2⟩
      rcases List.mem_append.1 ho with ho|ho
      · exact ha.1 o' ho
      · simp at ho; subst ho; exact key) _ _ _ _ _ (show b0Y ⟨[],[]⟩ from ⟨by simp,by simp⟩) h1
 cases h2
 exact this
theorem FRun.all {K:Cfg} {P:Sel→Prop} (hP:∀ x,P x→∀ y∈x.sub,P y) (hf:∀ f∈K.frags,∀ x∈f.sub,P x) {l:List Sel} {s:List (List Nat)} {F:List Sel} {s':List (List Nat)} (h:FRun K l s F s'):(∀ x∈l,P x)→∀ x∈F,P x:=by
 induction h with
 | nil s=>intro _ x hx; cases hx
 | skipC _ _ ih=>exact fun hl=>ih fun x hx=>hl x (by simp [hx])
 | fieldC _ _ _ ih =>
  intro hl x hx
  rcases List.mem_cons.1 hx with rfl|hx
  · exact hl _ (by simp)
  · exact ih (fun x hx=>hl x (by simp [hx])) x hx
 | noneC _ _ _ _ _ ih=>exact fun hl=>ih fun x hx=>hl x (by simp [hx])
 | otherC _ _ _ _ _ _ _ _ ih=>exact fun hl=>ih fun x hx=>hl x (by simp [hx])
 | spreadC _ _ _ _ hq _ _ _ _ ih ih2 =>
  intro hl x hx
  rcases List.mem_append.1 hx with hx|hx
  · exact ih (hf _ (List.mem_of_getElem? hq)) x hx
  · exact ih2 (fun x hx=>hl x (by simp [hx])) x hx
 | inNoC _ _ _ _ _ ih=>exact fun hl=>ih fun x hx=>hl x (by simp [hx])
 | inlC _ _ _ _ _ _ ih ih2 =>
  intro hl x hx
  rcases List.mem_append.1 hx with hx|hx
  · exact ih (fun y hy=>hP _ (hl _ (List.mem_cons_self ..)) y hy) x hx
  · exact ih2 (fun x hx=>hl x (by simp [hx])) x hx
theorem a1R:∀ (f i:Nat) (s:List Nat) (acc L:List Tok),L6 f i s acc=some L→L.length≤acc.length+f
 | 0,_,_,_,_,h=>by rw [L6] at h; cases h
 | f+1,i,[],acc,L,h=>by
  rw [L6] at h; cases h
  simp
 | f+1,i,b::r,acc,L,h=>by
  rw [L6] at h
  split at h
  · have:=a1R f _ _ _ _ h; omega
  split at h
  · have:=a1R f _ _ _ _ h; omega
  split at h
  · cases h
  · have:=a1R f _ _ _ _ h
    simp at this; omega
/-- all that is in a document is few -/
theorem c1v {s:List Nat} {D:Docm} (h:a6Z s=some D) (hD:D.Els):b0Y D∧(∀ o∈D.ops,∀ x∈o.sub,Fit x)∧∀ f∈D.frags,∀ x∈f.sub,Fit x:=by
 unfold a6Z at h
 cases hT:I9 s with
 | none=>rw [hT] at h; cases h
 | some L =>
  rw [hT] at h
  have h:a0u L=some D:=h
  have hL:L.length≤2002:=by
   unfold I9 at hT
   split at hT
   · cases hT
   · have:=a1R _ _ _ _ _ hT
     simpa using this
  have hw:=d5v (b8A hT) h
  refine ⟨c4I h,fun o ho x hx=>?_,fun f hf x hx=>?_⟩
  · have h1:=T4 opW ho
    have h2:=T4 (fun x:Sel=>x.w+2) hx
    have e:opW o=wS (fun x=>x.w+2) o.sub:=rfl
    exact ⟨(hD.ops o ho).sub.2 x hx,by omega⟩
  · have h1:=T4 L7 hf
    have h2:=T4 (fun x:Sel=>x.w+2) hx
    have e:L7 f=wS (fun x=>x.w+2) f.sub:=rfl
    exact ⟨(hD.frags f hf).2 x hx,by omega⟩
end Go.Cb.CodeA
