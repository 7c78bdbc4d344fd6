import Derived.Test.YtbibkdncfclnbaaGreatDoorLN
import Derived.Test.YtbibkdncfclnbaaGreatDoorMaw
import Derived.Test.YtbibkdncfclnbaaGreatDoorMbb
set_option maxRecDepth 20000
set_option linter.unusedSimpArgs false
set_option linter.unusedVariables false
namespace Go.Cb.CodeA
open Go Go.Cb
attribute [local congr] g8 i7 j0 j1 i6 g9 j5 j4 V.runR_congr
/-- a query of little takes few steps, and all is known -/
theorem b6U {d:List Sel} {es:List Ent} {v:AV} (hl:es.length≤12) (hg:∀ e∈es,e.Good) (hd:Nat.ble (r6 d) 5000=true):(N0 (E0 d es v) d).2.steps≤5000∧(N0 (E0 d es v) d).2.part=false:=by
 have hE:=b5X d v hl hg
 have h1:=a1L hE (b1Y hE 5002) n4 Ent.none (by simp [Ent.none]) [] ((E0 d es v).grp n4 d) [] [] ⟨[],false,0⟩
 have h2:=hE.grp n4 d
 have h3:=Nat.le_of_ble_eq_true hd
 have h4:=a1t (a3A (E:=E0 d es v) fun _=>rfl) (P8 (a3A (E:=E0 d es v) fun _=>rfl) 5002) n4 Ent.none [] ((E0 d es v).grp n4 d) [] [] ⟨[],false,0⟩
 refine ⟨?_,h4⟩
 have h1:(N0 (E0 d es v) d).2.steps≤0+N2 ((E0 d es v).grp n4 d):=h1
 omega
theorem b2o {d:List Sel} {es:List Ent} {v:AV} (hl:es.length≤12) (hg:∀ e∈es,e.Good) (hd:Nat.ble (r6 d) 5000=true):a4x (E0 d es v) d=(0,(N0 (E0 d es v) d).1.1,(N0 (E0 d es v) d).2.ps):=by
 obtain ⟨h1,h2⟩:=b6U (v:=v) hl hg hd
 unfold a4x
 rw [if_neg (by omega),h2,if_neg (by decide)]
theorem c3d {d:List Sel} {es:List Ent} {v:AV} (hl:es.length≤12) (hg:∀ e∈es,e.Good):(N0 (E0 d es v) d).1.1.Fin :=
 a3o (E:=E0 d es v) (b2A d v hl hg) (b3w (b2A d v hl hg) 5002) (P8 (E6 _) 5002) (P8 (a0i _) 5002) n4 (x:=Ent.none) (by simp [Ent.none]) [] ((E0 d es v).grp n4 d) [] [] ⟨[],false,0⟩ (by simp) (Nat.zero_le _) (Nat.zero_le _) (by decide)
theorem J1 {n:Int} (hn:0≤n∧n < 256):n5 .i64 n=n:=by
 obtain ⟨m,rfl⟩:=Int.eq_ofNat_of_zero_le hn.1
 unfold n5
 dsimp only
 rw [if_pos (by rw [Nat.blt_eq]; omega)]
 rfl
theorem G6 (a b:List Nat):l6 .add (.str a) (.str b)=if a.length+b.length≤2 ^ 62 then some (.str (a++b)) else none:=rfl
theorem il3:(0≤(3:Int))=True:=by simp
theorem it3:(3:Int).toNat=3:=rfl
theorem C3:EvQ tbl 11 [] [] (fun a st'=>st'=b4p∧a=.bool true):=⟨_,_,Go.Cb.G.ev_ofG d4l,rfl,rfl⟩
theorem M2:EvQ tbl 12 [] b4p (fun a st'=>st'=N1∧a=.tuple [.ptr 52 0,.ptr 80 0]):=⟨_,_,Go.Cb.G.ev_ofG d3i,rfl,rfl⟩
end Go.Cb.CodeA
