import Derived.Test.YtbibkdncfclnbaaGreatDoorLN
import Derived.Test.YtbibkdncfclnbaaGreatDoorMaw
import Derived.Test.YtbibkdncfclnbaaGreatDoorMbb
set_option maxRecDepth 20000
set_option linter.unusedSimpArgs false
set_option linter.unusedVariables false
namespace Go.Cb.CodeA
open Go Go.Cb
attribute [local congr] i7 j1 j2 j3 j0 i8 k6 j9 V.runR_congr
theorem a1z {d:List Sel} {es:List Ent} {v:AV} (hl:es.length≤12) (hg:∀ e∈es,e.Good) (hd:Nat.ble (r5 d) 5000=true):(T7 (E0 d es v) d).2.steps≤5000∧(T7 (E0 d es v) d).2.part=false:=by
 have hE:=b62 d v hl hg
 have h1:=a2H hE (b2r hE 5002) j5 Ent.none (by simp [Ent.none]) [] ((E0 d es v).grp j5 d) [] [] ⟨[],false,0⟩
 have h2:=hE.grp j5 d
 have h3:=Nat.le_of_ble_eq_true hd
 have h4:=a0R (a5p (E:=E0 d es v) fun _=>rfl) (U1 (a5p (E:=E0 d es v) fun _=>rfl) 5002) j5 Ent.none [] ((E0 d es v).grp j5 d) [] [] ⟨[],false,0⟩
 refine ⟨?_,h4⟩
 have h1:(T7 (E0 d es v) d).2.steps≤0+P8 ((E0 d es v).grp j5 d):=h1
 omega
theorem a8P {d:List Sel} {es:List Ent} {v:AV} (hl:es.length≤12) (hg:∀ e∈es,e.Good) (hd:Nat.ble (r5 d) 5000=true):a2E (E0 d es v) d=(0,(T7 (E0 d es v) d).1.1,(T7 (E0 d es v) d).2.ps):=by
 obtain ⟨h1,h2⟩:=a1z (v:=v) hl hg hd
 unfold a2E
 rw [if_neg (by omega),h2,if_neg (by decide)]
theorem b0X {n:Int} (hn:0≤n∧n < 256):m5 .i64 n=n:=by
 obtain ⟨m,rfl⟩:=Int.eq_ofNat_of_zero_le hn.1
 unfold m5
 dsimp only
 rw [if_pos (by rw [Nat.blt_eq]; omega)]
 rfl
theorem d4F (a b:List Nat):l8 .add (.str a) (.str b)=if a.length+b.length≤2 ^ 62 then some (.str (a++b)) else none:=rfl
theorem il3:(0≤(3:Int))=True:=by simp
theorem it3:(3:Int).toNat=3:=rfl
theorem c4T:EvQ tbl 11 [] [] (fun a st'=>st'=b2o∧a=.bool true):=⟨_,_,Go.Cb.G.ev_ofG d6k,rfl,rfl⟩
theorem c5H:EvQ tbl 12 [] b2o (fun a st'=>st'=T_bb∧a=.tuple [.ptr 52 0,.ptr 80 0]):=⟨_,_,Go.Cb.G.ev_ofG d5q,rfl,rfl⟩
end Go.Cb.CodeA
