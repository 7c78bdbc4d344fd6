import Derived.Test.YtdlgfdncpemcnaaGreatDoorWP
import Derived.Test.YtdlgfdncpemcnaaGreatDoorW3
set_option maxRecDepth 100000
set_option linter.all false
namespace Go.Cb.CodeA
open Go Go.Cb Go.Cb.G
theorem cvt {P Q:Prop} (h:P) (e:P=Q):Q:=Eq.mp e h
theorem d43 {es:List Ent} {v:AV} {st:St} (h:EntsAt v es st) (hs:C9 es) (hl:es.length≤100000) {id:List Nat} {o:Option Ent} (hg:F8 es id=o):Ev e8 177 [.agg [v],.str id] st (.tuple [.agg (o.getD Ent.none).row,.bool o.isSome]) st:=by subst hg;exact((b4o h hs hl id).mono fun _ _ h=>⟨h.2,h.1⟩).to_ev
theorem e9t {f:Nat} {as:List AV} {r:AV} (h:Ev e8 f as T_b0 r T_b0) (ext:St) (j:as.map (AV.sh 31 ext.length)=as) (l:r.sh 31 ext.length=r):Ev e8 f as (T_b0++ext) r (T_b0++ext):=by
 have b:=Ev.sh b6N (L:=31) ext (show 31≤T_b0.length from Nat.le_of_eq (show 31=T_b0.length by kernel_rfl)) h;have e:shS 31 ext T_b0=T_b0++ext:=by have i:shS 31 ext T_b0=T_b0++ext++[]:=(by kernel_rfl);rw[i,List.append_nil]
 rw[j,l,e]at b;exact b
theorem b5m {es:List Ent} {x:Ent} (h:D4 x.id es=false):(i8 es x).length=es.length+1:=by have i:=a6V x.id es;rw[i8,if_neg (by rw[h]; decide)];simp;omega
theorem a4q {es:List Ent} {x:Ent} (h:D4 x.id es=true):(i8 es x).length=es.length:=by rw[i8,if_pos h,List.length_set]
def new:List Nat:=[110,101,119]
def a3U:List Nat:=[110,111,98,111,100,121]
def vT:Val:=.mk 2 0 [109] [] []
def vI (m:Int):Val:=.mk 1 m [] [] []
def x1E (m:Int):Ent:=⟨l7,new,[a6a,X0],[vI m,.mk 2 0 [110] [] []]⟩
def x2E (m:Int) (X:List Nat) (e:Ent):Ent:=⟨l7,X,(P6 a6a (vI m) (P6 X0 vT e.ks e.ls).1 (P6 X0 vT e.ks e.ls).2).1,(P6 a6a (vI m) (P6 X0 vT e.ks e.ls).1 (P6 X0 vT e.ks e.ls).2).2⟩
def mkV (n:Nat) (m:Int) (X:List Nat) (C C2 C3:List AV) (R:Nat→Rw) (ks:List (List Nat)):Lt:=⟨n,m,X,C,C2,C3,ks.map m3,a6B R ks.length,(pu1 R ks).1.map m3,(pu1 R ks).2,(pu2 m R ks).1.map m3,(pu2 m R ks).2⟩
section
variable (n:Nat) (m:Int) (X:List Nat) (C C2 C3:List AV) (R:Nat→Rw)
noncomputable def kF0 (ks:List (List Nat)):=callG e8 400 180 [(d5F (mkV n m X C C2 C3 R ks)),k31,(d41 (mkV n m X C C2 C3 R ks))] (b4i (mkV n m X C C2 C3 R ks))
def kG0 (ks:List (List Nat)):Option (AV×St):=some ((b4n (mkV n m X C C2 C3 R ks)),(a7r (mkV n m X C C2 C3 R ks)))
theorem kQ0:(a2e personK).map (kF0 n m X C C2 C3 R)=(a2e personK).map (kG0 n m X C C2 C3 R):=by kernel_rfl
noncomputable def kF1 (ks:List (List Nat)):=callG e8 400 180 [(b4n (mkV n m X C C2 C3 R ks)),k32,(p1 (mkV n m X C C2 C3 R ks))] (b24 (mkV n m X C C2 C3 R ks))
def kG1 (ks:List (List Nat)):Option (AV×St):=some ((a4b (mkV n m X C C2 C3 R ks)),(a2O (mkV n m X C C2 C3 R ks)))
theorem kQ1:(a2e personK).map (kF1 n m X C C2 C3 R)=(a2e personK).map (kG1 n m X C C2 C3 R):=by kernel_rfl
noncomputable def kF2 (ks:List (List Nat)):=callG e8 400 106 [(d8T (mkV n m X C C2 C3 R ks)),k31] ((J3 (mkV n m X C C2 C3 R ks)).set 180 ((a2X (mkV n m X C C2 C3 R ks))))
def kG2 (ks:List (List Nat)):Option (AV×St):=some ((b7g (mkV n m X C C2 C3 R ks)),((J3 (mkV n m X C C2 C3 R ks)).set 180 ((a2X (mkV n m X C C2 C3 R ks)))))
theorem kQ2:(a2e personK).map (kF2 n m X C C2 C3 R)=(a2e personK).map (kG2 n m X C C2 C3 R):=by kernel_rfl
end
theorem f6B (v:Lt):((p72 v))[31]?=some (.cells v.C):=by kernel_rfl
theorem f6v (v:Lt):((p77 v))[31]?=some (.cells v.C):=by kernel_rfl
theorem f9Q (v:Lt):((p93 v))[156]?=some (.cells v.C2):=by kernel_rfl
theorem a8D (v:Lt):((s9 v))[156]?=some (.cells v.C2):=by kernel_rfl
theorem f5c (v:Lt):((a2O v))[156]?=some (.cells v.C2):=by kernel_rfl
theorem e0l (v:Lt):((a2f v))[179]?=some (.cells v.C3):=by kernel_rfl
theorem d4n (v:Lt):((a0D v))[179]?=some (.cells v.C3):=by kernel_rfl
theorem e2D (v:Lt):((a0B v))[156]?=some (.cells v.C2):=by kernel_rfl
theorem e8a (v:Lt):((p77 v)).length=155:=by kernel_rfl
theorem e2Z (v:Lt):((a2O v)).length=179:=by kernel_rfl
theorem b2n (v:Lt) (i:MOK v.m):Q0 v:=cvt (e9t (b15 i).to_ev (((p3 v)).drop 31) (by kernel_rfl) (by kernel_rfl)) (by kernel_rfl)
theorem f6H (v:Lt) (i:MOK v.m):Q60 v:=cvt (e9t (b15 i).to_ev (((S9 v)).drop 31) (by kernel_rfl) (by kernel_rfl)) (by kernel_rfl)
end Go.Cb.CodeA
