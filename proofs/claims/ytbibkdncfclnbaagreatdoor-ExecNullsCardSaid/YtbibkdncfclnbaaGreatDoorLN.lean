import Derived.Test.YtbibkdncfclnbaaGreatDoorB1
import Derived.Test.YtbibkdncfclnbaaGreatDoorRN
set_option maxRecDepth 20000
set_option linter.unusedSimpArgs false
set_option linter.unusedVariables false
namespace Go.Cb.CodeA
open Go Go.Cb
def a3b:List Nat:=[110,97,109,101]
def a0D:List Nat:=[102,114,105,101,110,100,115]
def a1A:List Nat:=[112,101,111,112,108,101]
def a5D:List Nat:=[112,101,116,115]
def n7:List Nat:=[80,101,114,115,111,110]
def b4p:List Nat:=[80,101,116]
def fName:FDef:=⟨a3b,[],.base R9 true,false,Val.none⟩
def fFriends:FDef:=⟨a0D,[],.wrap (.base n7 true) false,false,Val.none⟩
def fPeople:FDef:=⟨a1A,[],.wrap (.base n7 true) true,false,Val.none⟩
def fPets:FDef:=⟨a5D,[],.wrap (.base b4p true) true,false,Val.none⟩
def I9:Sel:=.mk 1 [] a3b [] [] [] []
theorem a6Z {d:List Sel} {es:List Ent} {v:AV} (typ:List Nat) (l:List Sel):(E0 d es v).grp typ l=H3 (I8 { K0 d with typ:=typ } l):=b1A (K:={ K0 d with typ:=typ }) rfl l
def b1Y (v:Val):Prop:=eqI v.kind 6=true∧∃ a ls,v.vals=a::ls∧eqI a.kind 2=true
def a7F (v:Val):Prop:=eqI v.kind 6=true∧∃ a b,v.vals=[a,b]∧eqI a.kind 2=true∧∀ u∈b.vals,b1Y u
section
variable {d:List Sel} {es:List Ent} {v:AV}
theorem b9h {e:Ent} (h:e.Good) {n:List Nat} (h0:eqI (atK 6 e.ks e.ls n).kind 0=true):(atK 6 e.ks e.ls n).vals=[]:=by
 unfold atK at h0 ⊢
 rw [if_pos (show eqI 6 6=true from rfl)] at h0 ⊢
 cases hq:pI (fun y=>eqN n y) e.ks with
 | none=>rfl
 | some i =>
  rw [hq] at h0
  dsimp only at h0 ⊢
  cases hi:e.ls[i]? with
  | none=>rfl
  | some v =>
   rw [hi] at h0
   obtain ⟨k,n,s,ls,rfl,hk,_,_⟩:=h.sm v (List.mem_of_getElem? hi)
   exact hk.2 (by rw [eqI_eq] at h0; simpa [Val.kind] using h0)
theorem a8P {n:Nat} {typ:List Nat} (ht:eqN typ m2=false) {x:Ent} {fs:List Sel} {path:Pth} {s:RS} (h:(r5 (E0 d es v) (valF (E0 d es v) n) typ x fName fs path s).1.2=true):eqI (r5 (E0 d es v) (valF (E0 d es v) n) typ x fName fs path s).1.1.kind 2=true:=by
 unfold r5 at h ⊢
 rw [show eqN fName.n E1=false from rfl,if_neg (by decide),ht,Bool.not_false,if_pos rfl] at h ⊢
 obtain ⟨h1,h2⟩:=Z0 h
 rw [h1]
 have h2:=h2 rfl
 cases n with
 | zero=>cases h2
 | succ n =>
  revert h2
  rw [valF.eq_def]
  dsimp only
  split
  · rename_i c; intro h2; dsimp only at h2; rw [c] at h2; cases h2
  rename_i c
  rw [show fName.t=.base R9 true from rfl]
  dsimp only
  rw [show (E0 d es v).leaf R9=true from rfl,if_pos rfl]
  split
  · rename_i c2
    intro _
    unfold a5E at c2
    rw [show eqN R9 [73,68]=false from rfl,if_neg (by decide)] at c2
    have c2:a6V T0 R9 _=true:=c2
    unfold a6V at c2
    rw [if_neg c,show eqN R9 [73,110,116]=false from rfl,if_neg (by decide),show eqN R9 [83,116,114,105,110,103]=true from rfl,if_pos rfl] at c2
    exact c2
  · intro h2; cases h2
theorem a36 {t:List Nat} (h:j5 ((E0 d es v).poss n7) t=true):t=n7:=by
 have h:j5 [n7] t=true:=h
 simp only [j5,List.any_cons,List.any_nil,Bool.or_false] at h
 exact (t6 _ _).1 h
/-- things that are told by their names -/
theorem b2r {n:Nat} {b:Bool} {w:Val} {fs:List Sel} (hs:m3 fs=[I9]) {path:Pth} {s:RS} (hk:eqI (valF (E0 d es v) n (.base n7 b) w fs path s).1.kind 0=false):b1Y (valF (E0 d es v) n (.base n7 b) w fs path s).1:=by
 obtain ⟨m,x,s1,rfl,hp,_,ho,e⟩:=a4W (E:=E0 d es v) (show (E0 d es v).leaf n7=false from rfl) hk
 rw [e]
 rw [a36 hp,hs,a6Z] at ho ⊢
 rw [show I8 { K0 d with typ:=n7 } [I9]=[I9] from rfl,show H3 [I9]=[(a3b,[I9])] from rfl] at ho ⊢
 obtain ⟨a,s2,h1,h2⟩:=a2Y (f:=fName) (show (E0 d es v).fld n7 (H7 [I9])=some fName from rfl) ho
 have hn:=a8P (d:=d) (es:=es) (v:=v) (n:=m) (typ:=n7) rfl (x:=x) (fs:=[I9]) (path:=path++[a3b]) (s:=s1.step)
 rw [h1] at hn
 rw [h2,r8]
 exact ⟨rfl,a,[],rfl,hn rfl⟩
def L6:Sel:=.mk 1 [] a0D [] [] [] [I9]
theorem b09 (hg:∀ e∈es,e.Good) {n:Nat} {b:Bool} {w:Val} {fs:List Sel} (hs:m3 fs=[I9,L6]) {path:Pth} {s:RS} (hk:eqI (valF (E0 d es v) n (.base n7 b) w fs path s).1.kind 0=false):a7F (valF (E0 d es v) n (.base n7 b) w fs path s).1:=by
 obtain ⟨m,x,s1,rfl,hp,hx,ho,e⟩:=a4W (E:=E0 d es v) (show (E0 d es v).leaf n7=false from rfl) hk
 have hgx:=hg x (a03 hx).1
 rw [e]
 rw [a36 hp,hs,a6Z] at ho ⊢
 rw [show I8 { K0 d with typ:=n7 } [I9,L6]=[I9,L6] from rfl,show H3 [I9,L6]=[(a3b,[I9]),(a0D,[L6])] from rfl] at ho ⊢
 obtain ⟨a,s2,h1,h2⟩:=a2Y (f:=fName) (show (E0 d es v).fld n7 (H7 [I9])=some fName from rfl) ho
 have hn:=a8P (d:=d) (es:=es) (v:=v) (n:=m) (typ:=n7) rfl (x:=x) (fs:=[I9]) (path:=path++[a3b]) (s:=s1.step)
 rw [h1] at hn
 rw [h2] at ho ⊢
 obtain ⟨c,s3,h3,h4⟩:=a2Y (f:=fFriends) (show (E0 d es v).fld n7 (H7 [L6])=some fFriends from rfl) ho
 rw [h4,r8]
 refine ⟨rfl,a,c,rfl,hn rfl,?_⟩
 unfold r5 at h3
 rw [show eqN fFriends.n E1=false from rfl,if_neg (by decide),show eqN n7 m2=false from rfl,Bool.not_false,if_pos rfl] at h3
 have hc:=Z0 (V:=valF (E0 d es v) m) (t:=fFriends.t) (v:=atK 6 x.ks x.ls fFriends.n) (fs:=[L6]) (path:=path++[a0D]) (s:=s2.step) (by rw [h3])
 rw [h3] at hc
 dsimp only at hc
 rcases e8 (eqI c.kind 0) with hk0|hk0
 · intro u hu
   rw [hc.1] at hu hk0
   exfalso
   cases m with
   | zero=>cases hu
   | succ m =>
    revert hu hk0
    rw [valF.eq_def]
    dsimp only
    split
    · rename_i c0
      intro hk0 hu
      rw [show (atK 6 x.ks x.ls fFriends.n,s2.step).fst=atK 6 x.ks x.ls fFriends.n from rfl,b9h hgx c0] at hu
      cases hu
    rw [show fFriends.t=.wrap (.base n7 true) false from rfl]
    dsimp only
    split
    · intro hk0 hu
      rcases a2N (V:=valF (E0 d es v) m) (P:=fun _=>True) (fun _ _ _ _=>trivial) (path++[a0D]) (atK 6 x.ks x.ls fFriends.n).vals 0 [] s2.step (by simp) with h|⟨ys,h,_⟩
      · rw [h] at hu; cases hu
      · rw [h] at hk0; cases hk0
    · intro hk0 hu; cases hu
 · rw [hc.1] at hk0 ⊢
   obtain ⟨ys,e1,e2⟩:=a5w (P:=b1Y) (E:=E0 d es v) (u:=.base n7 true) (b:=false) (fs:=[L6]) (fun m x p s h=>by
    have h5:=Z0 h
    rw [h5.1]
    exact b2r rfl (h5.2 rfl)) hk0
   rw [show fFriends.t=.wrap (.base n7 true) false from rfl,e1]
   exact e2
end
end Go.Cb.CodeA
