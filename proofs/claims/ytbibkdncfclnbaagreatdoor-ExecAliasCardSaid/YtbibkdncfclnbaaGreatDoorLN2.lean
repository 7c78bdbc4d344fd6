import Derived.Test.YtbibkdncfclnbaaGreatDoorLN
import Derived.Test.YtbibkdncfclnbaaGreatDoorMaw
import Derived.Test.YtbibkdncfclnbaaGreatDoorMbb
set_option maxRecDepth 20000
set_option linter.unusedSimpArgs false
set_option linter.unusedVariables false
namespace Go.Cb.CodeA
open Go Go.Cb
attribute [local congr] g8 i8 j1 j0 i6 g9 j4 j5 V.runR_congr
/-- a query of little takes few steps, and all is known -/
theorem b6M {d:List Sel} {es:List Ent} {v:AV} (hl:es.length≤12) (hg:∀ e∈es,e.Good) (hd:Nat.ble (q9 d) 5000=true):(U4 (E0 d es v) d).2.steps≤5000∧(U4 (E0 d es v) d).2.part=false:=by
 have hE:=b51 d v hl hg
 have h1:=a1M hE (a9I hE 5002) m4 Ent.none (by simp [Ent.none]) [] ((E0 d es v).grp m4 d) [] [] ⟨[],false,0⟩
 have h2:=hE.grp m4 d
 have h3:=Nat.le_of_ble_eq_true hd
 have h4:=a1u (a3A (E:=E0 d es v) fun _=>rfl) (O9 (a3A (E:=E0 d es v) fun _=>rfl) 5002) m4 Ent.none [] ((E0 d es v).grp m4 d) [] [] ⟨[],false,0⟩
 refine ⟨?_,h4⟩
 have h1:(U4 (E0 d es v) d).2.steps≤0+M7 ((E0 d es v).grp m4 d):=h1
 omega
theorem b2x {d:List Sel} {es:List Ent} {v:AV} (hl:es.length≤12) (hg:∀ e∈es,e.Good) (hd:Nat.ble (q9 d) 5000=true):a1Q (E0 d es v) d=(0,(U4 (E0 d es v) d).1.1,(U4 (E0 d es v) d).2.ps):=by
 obtain ⟨h1,h2⟩:=b6M (v:=v) hl hg hd
 unfold a1Q
 rw [if_neg (by omega),h2,if_neg (by decide)]
theorem c1n {d:List Sel} {es:List Ent} {v:AV} (hl:es.length≤12) (hg:∀ e∈es,e.Good):(U4 (E0 d es v) d).1.1.Fin :=
 a3v (E:=E0 d es v) (b2p d v hl hg) (b2F (b2p d v hl hg) 5002) (O9 (E1 _) 5002) (O9 (a0k _) 5002) m4 (x:=Ent.none) (by simp [Ent.none]) [] ((E0 d es v).grp m4 d) [] [] ⟨[],false,0⟩ (by simp) (Nat.zero_le _) (Nat.zero_le _) (by decide)
theorem c1P:EvQ tbl 11 [] [] (fun a st'=>st'=b3W∧a=.bool true):=⟨_,_,Go.Cb.G.ev_ofG d2g,rfl,rfl⟩
theorem a2Y:EvQ tbl 12 [] b3W (fun a st'=>st'=a0I∧a=.tuple [.ptr 52 0,.ptr 80 0]):=⟨_,_,Go.Cb.G.ev_ofG d2X,rfl,rfl⟩
end Go.Cb.CodeA
