import Derived.Test.YtbibkdncfclnbaaGreatDoorLN2
import Derived.Test.YtbibkdncfclnbaaGreatDoorRA
set_option maxRecDepth 20000
set_option linter.unusedSimpArgs false
set_option linter.unusedVariables false
namespace Go.Cb.CodeA
open Go Go.Cb
def zz9:List Nat:=[122,122,57]
def a4B (ks:List (List Nat)) (ls:List Val):Val:=.mk 6 0 [] ks ls
/-- the groups of a document of one field -/
theorem c28 {d:List Sel} {es:List Ent} {v:AV} (al nm:List Nat) (as:List Arg) (sub:List Sel):(E0 d es v).grp m4 [.mk 1 al nm [] as [] sub]=[(if eqN al [] then nm else al,[.mk 1 al nm [] as [] sub])]:=by
 rw [c2w]
 rfl
theorem b2l {d:List Sel} {es:List Ent} {v:AV} (al nm:List Nat) (as:List Arg) (sub:List Sel) (f:FDef) (hf:a1U T0 m4 nm=some f):U4 (E0 d es v) [.mk 1 al nm [] as [] sub] =
 (match r6 (E0 d es v) (valF (E0 d es v) 5002) m4 Ent.none f [.mk 1 al nm [] as [] sub] ([]++[if eqN al [] then nm else al]) ⟨[],false,1⟩ with
  | ((w,ok),s2)=>if ok then ((a4B ([]++[if eqN al [] then nm else al]) ([]++[w]),true),s2) else ((Val.none,false),s2)):=by
 unfold U4
 rw [c28,x9,show (E0 d es v).fld m4 (V4 [.mk 1 al nm [] as [] sub])=some f from hf]
 dsimp only
 rw [show (RS.step ⟨[],false,0⟩)=⟨[],false,1⟩ from rfl,if_pos (by decide)]
 rfl
/-- another name changes the name alone -/
theorem T1 {nm:List Nat} {as:List Arg} {sub:List Sel} {f:FDef} {es:List Ent} {v:AV} (hl:es.length≤12) (hg:∀ e∈es,e.Good) (hf:a1U T0 m4 nm=some f) (hc:Nat.ble (q9 [.mk 1 [] nm [] as [] sub]) 5000=true) (hc':Nat.ble (q9 [.mk 1 zz9 nm [] as [] sub]) 5000=true) :
 ∃ (D D':Val) (l:List (Pth×Int)),a1Q (E0 [.mk 1 [] nm [] as [] sub] es v) [.mk 1 [] nm [] as [] sub]=(0,D,l.map (U6 [nm]))∧a1Q (E0 [.mk 1 zz9 nm [] as [] sub] es v) [.mk 1 zz9 nm [] as [] sub]=(0,D',l.map (U6 [zz9]))∧((D=Val.none∧D'=Val.none)∨∃ w:Val,w.Fin∧D=a4B [nm] [w]∧D'=a4B [zz9] [w]):=by
 have hfin:=c1n (d:=[.mk 1 [] nm [] as [] sub]) (v:=v) hl hg
 rw [b2x hl hg hc,b2x hl hg hc']
 have hS:=c6b [.mk 1 [] nm [] as [] sub] [.mk 1 zz9 nm [] as [] sub] es v
 have hM:=O9 (E1 (E0 [.mk 1 zz9 nm [] as [] sub] es v)) 5002
 have hV:a0D 0 [] [] [nm] [zz9] (valF (E0 [.mk 1 [] nm [] as [] sub] es v) 5002) (valF (E0 [.mk 1 zz9 nm [] as [] sub] es v) 5002):=b2k hS 5002
 have h:=a7Q hS hM hV m4 Ent.none f (fs:=[.mk 1 [] nm [] as [] sub]) (fs':=[.mk 1 zz9 nm [] as [] sub]) rfl rfl [] (s:=⟨[],false,1⟩) (s':=⟨[],false,1⟩) ⟨⟨[],rfl,rfl⟩,rfl,rfl⟩ (.inl rfl)
 have e1:=b2l (d:=[.mk 1 [] nm [] as [] sub]) (es:=es) (v:=v) [] nm as sub f hf
 have e2:=b2l (d:=[.mk 1 zz9 nm [] as [] sub]) (es:=es) (v:=v) zz9 nm as sub f hf
 rw [show (if eqN [] []=true then nm else [])=nm from rfl] at e1
 rw [show (if eqN zz9 []=true then nm else zz9)=zz9 from rfl] at e2
 rw [e1] at hfin ⊢
 rw [e2]
 revert h hfin
 rw [show [nm]++[]=[]++[nm] from rfl,show [zz9]++[]=[]++[zz9] from rfl]
 generalize r6 (E0 [.mk 1 [] nm [] as [] sub] es v) (valF (E0 [.mk 1 [] nm [] as [] sub] es v) 5002) m4 Ent.none f [.mk 1 [] nm [] as [] sub] ([]++[nm]) ⟨[],false,1⟩=r
 generalize r6 (E0 [.mk 1 zz9 nm [] as [] sub] es v) (valF (E0 [.mk 1 zz9 nm [] as [] sub] es v) 5002) m4 Ent.none f [.mk 1 zz9 nm [] as [] sub] ([]++[zz9]) ⟨[],false,1⟩=r'
 obtain ⟨⟨w,ok⟩,s2⟩:=r
 obtain ⟨⟨w',ok'⟩,s2'⟩:=r'
 intro hfin h
 dsimp only at h hfin ⊢
 obtain ⟨h1,h2⟩:=h
 cases h1
 obtain ⟨l,hp,hp'⟩:=h2.ps
 rw [List.nil_append] at hp hp'
 cases ok with
 | false =>
  rw [if_neg (by decide),if_neg (by decide)]
  exact ⟨_,_,l,by rw [← hp],by rw [← hp'],.inl ⟨rfl,rfl⟩⟩
 | true =>
  rw [if_pos rfl] at hfin ⊢
  rw [if_pos rfl]
  exact ⟨_,_,l,by rw [← hp]; rfl,by rw [← hp']; rfl,.inr ⟨w,hfin.vals w (by simp [a4B,Val.vals]),rfl,rfl⟩⟩
end Go.Cb.CodeA
