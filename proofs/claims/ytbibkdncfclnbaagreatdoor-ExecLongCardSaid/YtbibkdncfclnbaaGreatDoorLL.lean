import Derived.Test.YtbibkdncfclnbaaGreatDoorLN2
import Derived.Test.YtbibkdncfclnbaaGreatDoorXs1
import Derived.Test.YtbibkdncfclnbaaGreatDoorRL
set_option maxRecDepth 20000
set_option linter.unusedSimpArgs false
set_option linter.unusedVariables false
namespace Go.Cb.CodeA
open Go Go.Cb
/-! friends of friends: how many steps it takes -/
def m8 (k:Nat):List Val:=(List.range k).map fun i=>E6 [97+i]
def P0 (k i:Nat):Ent:=⟨l9,[97+i],[Q5],[.mk 5 0 [] [] (m8 k)]⟩
def e7 (k:Nat):List Ent:=(List.range k).map (P0 k)
def fAge:FDef:=⟨b1s,[],.base [73,110,116] false,false,Val.none⟩
def J9:Nat→List Sel
 | 0=>[.mk 1 [] b1s [] [] [] []]
 | d+1=>[.mk 1 [] Q5 [] [] [] (J9 d)]
def a0L (k:Nat):Nat→Nat
 | 0=>1
 | d+1=>1+k*(1+a0L k d)
/-- it takes so many steps, or too many -/
structure Exact {α:Type} (r:α×RS) (s:RS) (c:Nat) (good:Prop):Prop where
 ok:s.steps+c≤5000→good∧r.2.steps=s.steps+c∧r.2.ps=s.ps
 no:s.steps≤5000→5000 < s.steps+c→5000 < r.2.steps
section
variable {d:List Sel} {k:Nat} {v:AV}
theorem c1L (typ:List Nat):(E0 d (e7 k) v).grp typ (J9 0)=[(b1s,J9 0)]:=by
 rw [a7i]
 rfl
theorem b1Q (typ:List Nat) (D:Nat):(E0 d (e7 k) v).grp typ (J9 (D+1))=[(Q5,J9 (D+1))]:=by
 rw [a7i]
 rfl
theorem a1J {V:VF} {t:TRef} {w:Val} {fs:List Sel} {path:Pth} {s:RS} {c:Nat} {P:Val→Prop} (h:Exact (V t w fs path s) s c (P (V t w fs path s).1)) (hk:∀ u,P u→(eqI u.kind 0 && t.bang)=false) :
 Exact (y8 V t w fs path s) s c ((y8 V t w fs path s).1.2=true∧P (y8 V t w fs path s).1.1):=by
 obtain ⟨h1,h2⟩:=h
 unfold y8
 revert h1 h2
 generalize V t w fs path s=r
 obtain ⟨out,s2⟩:=r
 intro h1 h2
 dsimp only at h1 h2 ⊢
 refine ⟨fun hc=>?_,fun hs hc=>?_⟩
 · obtain ⟨a1,a2,a3⟩:=h1 hc
   rw [hk out a1,if_neg (by decide)]
   exact ⟨⟨rfl,a1⟩,a2,a3⟩
 · have:=h2 hs hc
   split
   · dsimp only
     split
     · exact this
     · exact this
   · exact this
theorem a3I {E:REnv} {V:VF} (hM:Inv b0u V) {t:TRef} {fs:List Sel} {c:Nat}:∀ (l:List Val) (i:Nat) (acc:List Val) (path:Pth) (s:RS),(∀ w∈l,∀ path s,s.steps≤5000→Exact (y8 V t w fs path s) s c ((y8 V t w fs path s).1.2=true))→s.steps≤5000 →
 Exact (I1 V t fs path l i acc s) s (l.length*(1+c)) (eqI (I1 V t fs path l i acc s).1.kind 5=true)
 | [],i,acc,path,s,_,hs=>by
  refine ⟨fun _=>⟨rfl,by simp [I1],rfl⟩,fun _ h=>?_⟩
  simp at h; omega
 | w::l,i,acc,path,s,h,hs=>by
  rw [List.length_cons,Nat.succ_mul]
  unfold I1
  by_cases c0:s.step.steps≤5000
  · have hup:=b51 c0
    rw [if_pos c0]
    obtain ⟨g1,g2⟩:=h w (by simp) (path++[H9 (i:Int)]) s.step c0
    have hmono:=a0y (I9 E) hM t w fs (path++[H9 (i:Int)]) s.step
    revert g1 g2 hmono
    generalize y8 V t w fs (path++[H9 (i:Int)]) s.step=r
    obtain ⟨⟨y,ok⟩,s2⟩:=r
    intro g1 g2 hmono
    dsimp only at g1 g2 ⊢
    have hps:s.step.ps=s.ps:=rfl
    by_cases hc:s.step.steps+c≤5000
    · obtain ⟨a1,a2,a3⟩:=g1 hc
      try dsimp only at a1 a2 a3
      subst a1
      rw [if_pos rfl]
      obtain ⟨b1,b2⟩:=a3I (E:=E) hM l (i+1) (acc++[y]) path s2 (fun w hw=>h w (by simp [hw])) (by omega)
      refine ⟨fun hh=>?_,fun _ hh=>b2 (by omega) (by omega)⟩
      obtain ⟨x1,x2,x3⟩:=b1 (by omega)
      exact ⟨x1,by omega,by rw [x3,a3,hps]⟩
    · refine ⟨fun hh=>by omega,fun _ hh=>?_⟩
      have hbig:5000 < s2.steps:=g2 c0 (by omega)
      split
      · have:=a2b (I9 E) hM t fs path l (i+1) (acc++[y]) s2
        exact Nat.lt_of_lt_of_le hbig this
      · exact hbig
  · rw [if_neg c0]
    have:s.step.steps≤s.steps+1:=b1x s
    exact ⟨fun hh=>by omega,fun _ hh=>by dsimp only; omega⟩
/-- an object of one field -/
theorem a2J {E:REnv} {V:VF} (hM:Inv b0u V) {typ:List Nat} {x:Ent} {path:Pth} {key:List Nat} {fs:List Sel} {f:FDef} (hf:E.fld typ (U0 fs)=some f) {s:RS} {c:Nat} (hs:s.steps≤5000) (h:s.step.steps≤5000→Exact (E1 E V typ x f fs (path++[key]) s.step) s.step c ((E1 E V typ x f fs (path++[key]) s.step).1.2=true)) :
 Exact (D6 E V typ x path [(key,fs)] [] [] s) s (1+c) ((D6 E V typ x path [(key,fs)] [] [] s).1.2=true∧eqI (D6 E V typ x path [(key,fs)] [] [] s).1.1.kind 6=true):=by
 rw [D6,hf]
 dsimp only
 by_cases c0:s.step.steps≤5000
 · have hup:=b51 c0
   rw [if_pos c0]
   obtain ⟨g1,g2⟩:=h c0
   revert g1 g2
   generalize E1 E V typ x f fs (path++[key]) s.step=r
   obtain ⟨⟨y,ok⟩,s2⟩:=r
   intro g1 g2
   dsimp only at g1 g2 ⊢
   refine ⟨fun hh=>?_,fun _ hh=>?_⟩
   · obtain ⟨a1,a2,a3⟩:=g1 (by omega)
     subst a1
     rw [if_pos rfl,D6]
     exact ⟨⟨rfl,rfl⟩,by dsimp only; omega,a3⟩
   · have hbig:=g2 c0 (by omega)
     split
     · rw [D6]; exact hbig
     · exact hbig
 · rw [if_neg c0]
   have:s.step.steps≤s.steps+1:=b1x s
   exact ⟨fun hh=>by omega,fun _ hh=>by dsimp only; omega⟩
theorem c2d (hs:D0 (e7 k)) {i:Nat} (hi:i < k):R6 (e7 k) [97+i]=some (P0 k i):=by
 have:=a7A hs (P0 k i) (List.mem_map_of_mem (List.mem_range.2 hi))
 exact this
mutual
/-- a friend, and what is told of her -/
theorem b6o (hs:D0 (e7 k)):∀ (D n:Nat),2*D≤n→∀ (i:Nat),i < k→∀ (path:Pth) (s:RS),s.steps≤5000 →
 Exact (D6 (E0 d (e7 k) v) (valF (E0 d (e7 k) v) n) l9 (P0 k i) path ((E0 d (e7 k) v).grp l9 (J9 D)) [] [] s) s (a0L k D) ((D6 (E0 d (e7 k) v) (valF (E0 d (e7 k) v) n) l9 (P0 k i) path ((E0 d (e7 k) v).grp l9 (J9 D)) [] [] s).1.2=true∧eqI (D6 (E0 d (e7 k) v) (valF (E0 d (e7 k) v) n) l9 (P0 k i) path ((E0 d (e7 k) v).grp l9 (J9 D)) [] [] s).1.1.kind 6=true)
 | 0,n,hn,i,hi,path,s,hs1=>by
  rw [c1L]
  refine a2J (E:=E0 d (e7 k) v) (f:=fAge) (U4 (I9 _) n) (show (E0 d (e7 k) v).fld l9 (U0 (J9 0))=some fAge from rfl) (c:=0) hs1 fun c0=>?_
  have e:E1 (E0 d (e7 k) v) (valF (E0 d (e7 k) v) n) l9 (P0 k i) fAge (J9 0) (path++[b1s]) s.step=((Val.none,true),s.step):=by
   unfold E1
   rw [show eqN fAge.n C7=false from rfl,if_neg (by decide),show eqN l9 p7=false from rfl,Bool.not_false,if_pos rfl]
   rw [show atK 6 (P0 k i).ks (P0 k i).ls fAge.n=Val.none from rfl]
   have hv:valF (E0 d (e7 k) v) n fAge.t Val.none (J9 0) (path++[b1s]) s.step=(Val.none,s.step):=by
    cases n with
    | zero=>rfl
    | succ n =>
     rw [valF.eq_def]
     rfl
   unfold y8
   rw [hv]
   rfl
  rw [e]
  exact ⟨fun _=>⟨rfl,by simp,rfl⟩,fun _ hh=>by omega⟩
 | D+1,n,hn,i,hi,path,s,hs1=>by
  obtain ⟨m,rfl⟩:∃ m,n=m+2:=⟨n - 2,by omega⟩
  rw [b1Q]
  refine a2J (E:=E0 d (e7 k) v) (f:=fFriends) (U4 (I9 _) (m+2)) (show (E0 d (e7 k) v).fld l9 (U0 (J9 (D+1)))=some fFriends from rfl) (c:=k*(1+a0L k D)) hs1 fun c0=>?_
  have e:E1 (E0 d (e7 k) v) (valF (E0 d (e7 k) v) (m+2)) l9 (P0 k i) fFriends (J9 (D+1)) (path++[Q5]) s.step=y8 (valF (E0 d (e7 k) v) (m+2)) fFriends.t (.mk 5 0 [] [] (m8 k)) (J9 (D+1)) (path++[Q5]) s.step:=by
   unfold E1
   rw [show eqN fFriends.n C7=false from rfl,if_neg (by decide),show eqN l9 p7=false from rfl,Bool.not_false,if_pos rfl]
   rfl
  rw [e]
  have hI:=a5z hs D m (by omega) (J9 (D+1)) (by rw [J9]; simp [y9,Sel.sub]) false (path++[Q5]) s.step c0
  have:=a1J (P:=fun u=>eqI u.kind 5=true) hI (fun u hu=>by rw [eqI_eq] at hu; rw [show u.kind=5 by simpa using hu]; rfl)
  exact ⟨fun hh=>⟨(this.ok hh).1.1,(this.ok hh).2⟩,this.no⟩
 termination_by D=>2*D
/-- all of them -/
theorem a5z (hs:D0 (e7 k)) (D m:Nat) (hm:2*D≤m) (fs:List Sel) (hfs:y9 fs=J9 D) (b:Bool) (path:Pth) (s:RS) (hs1:s.steps≤5000) :
 Exact (valF (E0 d (e7 k) v) (m+2) (.wrap (.base l9 true) b) (.mk 5 0 [] [] (m8 k)) fs path s) s (k*(1+a0L k D)) (eqI (valF (E0 d (e7 k) v) (m+2) (.wrap (.base l9 true) b) (.mk 5 0 [] [] (m8 k)) fs path s).1.kind 5=true):=by
 have e:valF (E0 d (e7 k) v) (m+2) (.wrap (.base l9 true) b) (.mk 5 0 [] [] (m8 k)) fs path s=I1 (valF (E0 d (e7 k) v) (m+1)) (.base l9 true) fs path (m8 k) 0 [] s:=by
  rw [valF.eq_def]
  rfl
 rw [e]
 have hl:(m8 k).length=k:=by simp [m8]
 have:=a3I (E:=E0 d (e7 k) v) (V:=valF (E0 d (e7 k) v) (m+1)) (U4 (I9 _) (m+1)) (t:=.base l9 true) (fs:=fs) (c:=a0L k D) (m8 k) 0 [] path s ?_ hs1
 · rw [hl] at this; exact this
 · intro w hw path s hs2
   obtain ⟨i,hi,rfl⟩:=List.mem_map.1 hw
   have hi:i < k:=List.mem_range.1 hi
   have ho:=b6o hs D m hm i hi path s hs2
   have e2:valF (E0 d (e7 k) v) (m+1) (.base l9 true) (E6 [97+i]) fs path s=(match D6 (E0 d (e7 k) v) (valF (E0 d (e7 k) v) m) l9 (P0 k i) path ((E0 d (e7 k) v).grp l9 (J9 D)) [] [] s with|((y,_),s2)=>(y,s2)):=by
    rw [valF.eq_def]
    dsimp only
    rw [show eqI (E6 [97+i]).kind 0=false from rfl,if_neg (by decide),show (E0 d (e7 k) v).leaf l9=false from rfl,if_neg (by decide),show eqI (E6 [97+i]).kind 8=true from rfl,if_pos rfl]
    rw [show R6 (E0 d (e7 k) v).es (E6 [97+i]).text=some (P0 k i) from c2d hs hi]
    dsimp only
    rw [show k6 ((E0 d (e7 k) v).poss l9) (P0 k i).t=true from rfl,if_pos rfl,hfs,show (E0 d (e7 k) v).know s l9=s from rfl]
    rfl
   have h3:Exact (valF (E0 d (e7 k) v) (m+1) (.base l9 true) (E6 [97+i]) fs path s) s (a0L k D) (eqI (valF (E0 d (e7 k) v) (m+1) (.base l9 true) (E6 [97+i]) fs path s).1.kind 6=true):=by
    rw [e2]
    revert ho
    generalize D6 (E0 d (e7 k) v) (valF (E0 d (e7 k) v) m) l9 (P0 k i) path ((E0 d (e7 k) v).grp l9 (J9 D)) [] [] s=r
    obtain ⟨⟨y,ok⟩,s2⟩:=r
    intro ho
    exact ⟨fun hh=>⟨(ho.ok hh).1.2,(ho.ok hh).2⟩,ho.no⟩
   have:=a1J (P:=fun u=>eqI u.kind 6=true) h3 (fun u hu=>by rw [eqI_eq] at hu; rw [show u.kind=6 by simpa using hu]; rfl)
   exact ⟨fun hh=>⟨(this.ok hh).1.1,(this.ok hh).2⟩,this.no⟩
 termination_by 2*D+1
end
end
end Go.Cb.CodeA
