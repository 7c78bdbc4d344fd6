import Derived.Test.YtbibkdncfclnbaaGreatDoorB0
set_option maxRecDepth 20000
set_option linter.unusedSimpArgs false
set_option linter.unusedVariables false
namespace Go.Cb.CodeA
open Go Go.Cb
/-! how what is told looks -/
section
variable {E:REnv} {V:VF}
theorem Z0 {t:TRef} {v:Val} {fs:List Sel} {path:Pth} {s:RS} (h:(n5 V t v fs path s).1.2=true):(n5 V t v fs path s).1.1=(V t v fs path s).1∧(t.bang=true→eqI (V t v fs path s).1.kind 0=false):=by
 unfold n5 at h ⊢
 revert h
 generalize V t v fs path s=r
 obtain ⟨out,s2⟩:=r
 dsimp only
 split
 · intro h; cases h
 · rename_i c
   intro _
   refine ⟨rfl,fun hb=>?_⟩
   rw [hb,Bool.and_true] at c
   simpa using c
theorem a1Z (hP:Inv b1l V) {t:TRef} {v:Val} {fs:List Sel} {path:Pth} {s:RS} (h:(n5 V t v fs path s).1.2=false):(n5 V t v fs path s).1.1=Val.none∧0 < (n5 V t v fs path s).2.ps.length:=by
 have hp:=hP t v fs path s
 unfold n5 at h ⊢
 revert h hp
 generalize V t v fs path s=r
 obtain ⟨out,s2⟩:=r
 dsimp only
 intro h hp
 have hp:s.ps.length≤s2.ps.length:=hp
 split at h
 · rename_i c
   rw [if_pos c]
   refine ⟨rfl,?_⟩
   dsimp only
   split
   · show 0 < (s2.ps++[(path,9)]).length
     simp
   · omega
 · cases h
theorem b2e (hP:Inv b1l V) {typ:List Nat} {x:Ent} {f:FDef} {fs:List Sel} {path:Pth} {s:RS} (h:(r5 E V typ x f fs path s).1.2=false):0 < (r5 E V typ x f fs path s).2.ps.length:=by
 unfold r5 at h ⊢
 split at h
 · cases h
 rename_i c; rw [if_neg c]
 split at h
 · rename_i c; rw [if_pos c]; exact (a1Z hP h).2
 rename_i c; rw [if_neg c]
 split at h
 · rename_i c; rw [if_pos c]; exact (a1Z hP h).2
 rename_i c; rw [if_neg c]
 revert h
 generalize E.args f (a0w fs)=r
 obtain ⟨a,e⟩:=r
 dsimp only
 split
 · exact fun h=>(a1Z hP h).2
 · intro h; cases h
theorem a0N (hP:Inv b1l V) (hM:Inv a5I V) (typ:List Nat) (x:Ent) (path:Pth):∀ (gs:List (List Nat×List Sel)) (ks:List (List Nat)) (ls:List Val) (s:RS),(r8 E V typ x path gs ks ls s).1.2=false→(r8 E V typ x path gs ks ls s).1.1=Val.none∧((r8 E V typ x path gs ks ls s).2.steps≤5000→0 < (r8 E V typ x path gs ks ls s).2.ps.length)
 | [],ks,ls,s,h=>by cases h
 | (key,fs)::gs,ks,ls,s,h=>by
  unfold r8 at h ⊢
  cases hf:E.fld typ (H7 fs) with
  | none=>rw [hf] at h; exact a0N hP hM typ x path gs ks ls s h
  | some f =>
   rw [hf] at h
   dsimp only at h ⊢
   by_cases c:s.step.steps≤5000
   · rw [if_pos c] at h ⊢
     have hff:=b2e (E:=E) hP (typ:=typ) (x:=x) (f:=f) (fs:=fs) (path:=path++[key]) (s:=s.step)
     revert h hff
     generalize r5 E V typ x f fs (path++[key]) s.step=r
     obtain ⟨⟨y,ok⟩,s2⟩:=r
     dsimp only
     intro h hff
     cases ok with
     | true=>exact a0N hP hM typ x path gs _ _ s2 h
     | false=>exact ⟨rfl,fun _=>hff rfl⟩
   · rw [if_neg c]
     exact ⟨rfl,fun h=>absurd h c⟩
theorem a2Y {typ:List Nat} {x:Ent} {path:Pth} {key:List Nat} {fs:List Sel} {gs:List (List Nat×List Sel)} {ks:List (List Nat)} {ls:List Val} {s:RS} {f:FDef} (hf:E.fld typ (H7 fs)=some f) (h:(r8 E V typ x path ((key,fs)::gs) ks ls s).1.2=true) :
 ∃ v s2,r5 E V typ x f fs (path++[key]) s.step=((v,true),s2)∧r8 E V typ x path ((key,fs)::gs) ks ls s=r8 E V typ x path gs (ks++[key]) (ls++[v]) s2:=by
 rw [r8,hf] at h ⊢
 dsimp only at h ⊢
 split at h
 · rename_i c
   rw [if_pos c]
   revert h
   generalize r5 E V typ x f fs (path++[key]) s.step=r
   obtain ⟨⟨y,ok⟩,s2⟩:=r
   dsimp only
   cases ok with
   | true=>exact fun h=>⟨y,s2,rfl,rfl⟩
   | false=>intro h; cases h
 · cases h
theorem a2N {P:Val→Prop} {t:TRef} {fs:List Sel} (hc:∀ x p s,(n5 V t x fs p s).1.2=true→P (n5 V t x fs p s).1.1) (path:Pth):∀ (l:List Val) (i:Nat) (acc:List Val) (s:RS),(∀ y∈acc,P y)→(E4 V t fs path l i acc s).1=Val.none∨∃ ys,(E4 V t fs path l i acc s).1=.mk 5 0 [] [] ys∧∀ y∈ys,P y
 | [],i,acc,s,h=>.inr ⟨acc,rfl,h⟩
 | x::xs,i,acc,s,h=>by
  unfold E4
  split
  · have h1:=hc x (path++[D4 (i:Int)]) s.step
    revert h1
    generalize n5 V t x fs (path++[D4 (i:Int)]) s.step=r
    obtain ⟨⟨y,ok⟩,s2⟩:=r
    dsimp only
    intro h1
    split
    · rename_i c
      refine a2N hc path xs (i+1) (acc++[y]) s2 fun z hz=>?_
      rcases List.mem_append.1 hz with hz|hz
      · exact h z hz
      · simp at hz; subst hz; exact h1 c
    · exact .inl rfl
  · exact .inl rfl
/-- a thing of a type with possible types -/
theorem a4W {n:Nat} {nm:List Nat} {b:Bool} {v:Val} {fs:List Sel} {path:Pth} {s:RS} (hl:E.leaf nm=false) (hk:eqI (valF E n (.base nm b) v fs path s).1.kind 0=false) :
 ∃ m x s1,n=m+1∧j5 (E.poss nm) x.t=true∧W5 E.es v.text=some x∧(r8 E (valF E m) x.t x path (E.grp x.t (m3 fs)) [] [] s1).1.2=true∧(valF E n (.base nm b) v fs path s).1=(r8 E (valF E m) x.t x path (E.grp x.t (m3 fs)) [] [] s1).1.1:=by
 cases n with
 | zero=>cases hk
 | succ n =>
  rw [valF.eq_def] at hk ⊢
  dsimp only at hk ⊢
  split at hk
  · rename_i c; dsimp only at hk; rw [c] at hk; cases hk
  rename_i c; rw [if_neg c]
  rw [hl,if_neg (by decide)] at hk ⊢
  split at hk
  · rename_i c
    rw [if_pos c]
    cases hg:W5 E.es v.text with
    | none=>rw [hg] at hk; cases hk
    | some x =>
     rw [hg] at hk
     dsimp only at hk ⊢
     split at hk
     · rename_i c
       rw [if_pos c]
       have ho:=a0N (E:=E) (J7 (a7J E) n) (J7 (J6 E) n) x.t x path (E.grp x.t (m3 fs)) [] [] (E.know s nm)
       refine ⟨n,x,E.know s nm,rfl,c,rfl,?_⟩
       revert hk ho
       generalize r8 E (valF E n) x.t x path (E.grp x.t (m3 fs)) [] [] (E.know s nm)=r
       obtain ⟨⟨y,ok⟩,s2⟩:=r
       dsimp only
       intro hk ho
       cases ok with
       | true=>exact ⟨rfl,rfl⟩
       | false=>rw [(ho rfl).1] at hk; cases hk
     · cases hk
  · cases hk
theorem a5w {P:Val→Prop} {n:Nat} {u:TRef} {b:Bool} {v:Val} {fs:List Sel} {path:Pth} {s:RS} (hc:∀ m x p s,(n5 (valF E m) u x fs p s).1.2=true→P (n5 (valF E m) u x fs p s).1.1) (hk:eqI (valF E n (.wrap u b) v fs path s).1.kind 0=false) :
 ∃ ys,(valF E n (.wrap u b) v fs path s).1=.mk 5 0 [] [] ys∧∀ y∈ys,P y:=by
 cases n with
 | zero=>cases hk
 | succ n =>
  rw [valF.eq_def] at hk ⊢
  dsimp only at hk ⊢
  split at hk
  · rename_i c; dsimp only at hk; rw [c] at hk; cases hk
  rename_i c; rw [if_neg c]
  split at hk
  · rename_i c
    rw [if_pos c]
    rcases a2N (V:=valF E n) (hc n) path v.vals 0 [] s (by simp) with h|h
    · rw [h] at hk; cases hk
    · exact h
  · cases hk
end
end Go.Cb.CodeA
