import Derived.Test.YtbibkdncfclnbaaGreatDoorLN2
import Derived.Test.YtbibkdncfclnbaaGreatDoorSA
import Derived.Test.YtbibkdncfclnbaaGreatDoorRK
set_option maxRecDepth 20000
set_option linter.unusedSimpArgs false
set_option linter.unusedVariables false
namespace Go.Cb.CodeA
open Go Go.Cb
theorem b82 (l:List (Pth×Int)):l.map (b89 [])=l:=by
 induction l with
 | nil=>rfl
 | cons x l ih=>rw [List.map_cons,ih]; rfl
/-- what is skipped is as if it weren't asked -/
structure SkipD (d d':List Sel):Prop where
 x:SelX 2001 d
 x':SelX 2001 d'
 c:Nat.ble (r6 d) 5000=true
 c':Nat.ble (r6 d') 5000=true
 g:J0 (I5 { K0 d with typ:=n4 } d)=J0 (I5 { K0 d' with typ:=n4 } d')
theorem b4o {d d':List Sel} (h:SkipD d d') {es:List Ent} {v:AV} (hl:es.length≤12) (hg:∀ e∈es,e.Good):∃ (D:Val) (ps:List (Pth×Int)),D.Fin∧a4x (E0 d es v) d=(0,D,ps)∧a4x (E0 d' es v) d'=(0,D,ps):=by
 refine ⟨_,_,c3d (d:=d) (v:=v) hl hg,b2o hl hg h.c,?_⟩
 rw [b2o hl hg h.c']
 have hS:=c4s d d' es v
 have hM:=P8 (E6 (E0 d' es v)) 5002
 have hV:a0C 0 [] [] [] [] (valF (E0 d es v) 5002) (valF (E0 d' es v) 5002):=b2M hS 5002
 have h2:=a3r hS hM hV n4 Ent.none [] ((E0 d es v).grp n4 d) [] [] (s:=⟨[],false,0⟩) (s':=⟨[],false,0⟩) ⟨⟨[],rfl,rfl⟩,rfl,rfl⟩ (.inl rfl)
 have e:N0 (E0 d' es v) d'=A0 (E0 d' es v) (valF (E0 d' es v) 5002) n4 Ent.none ([]++[]) ((E0 d es v).grp n4 d) [] [] ⟨[],false,0⟩:=by
  unfold N0
  rw [b3D,b3D,h.g]
  rfl
 obtain ⟨h3,h4⟩:=h2
 obtain ⟨l,hp,hp'⟩:=h4.ps
 rw [b82,List.nil_append] at hp hp'
 have hq:(N0 (E0 d' es v) d').2.ps=(N0 (E0 d es v) d).2.ps:=by rw [e]; exact hp'.trans hp.symm
 have hq1:(N0 (E0 d' es v) d').1.1=(N0 (E0 d es v) d).1.1:=by rw [e]; exact congrArg Prod.fst h3.symm
 rw [hq,hq1]
end Go.Cb.CodeA
